-- Written by a program of this session (wip/prn.py) out of the translation, for the seat Ytpiakeejfggocaa. Not trusted: Lean checks it.
import Derived.Test.YtpiakeejfggocaaQx0
import Derived.Test.YtpiakeejfggocaaQx1
import Derived.Test.YtpiakeejfggocaaQx2
import Derived.Test.YtpiakeejfggocaaQx3
import Derived.Test.YtpiakeejfggocaaQx4
import Derived.Test.YtpiakeejfggocaaQx9
import Derived.Test.YtpiakeejfggocaaQx11
import Derived.Test.YtpiakeejfggocaaQx13
import Derived.Test.YtpiakeejfggocaaQx17
namespace Go.Proofs.Ytpiakeejfggocaa.Q
open Go.RowKit Go.Proofs.YtpiakeejfggocaaW.PrintWords Go.Proofs.YtpiakeejfggocaaW.PrintLast Go.Proofs.YtpiakeejfggocaaW.PrintMore
attribute [local go_sem] max2_int min2_int max_two min_two max_three min_three max_four min_four   -- for this text's walks alone
set_option linter.unusedVariables false
set_option linter.unusedSimpArgs false

/-! ### certpathlaw03_PrimCanonical: function 8 -/
mutual
def certpathlaw03_PrimCanonical.j0 : Nat → ByteArray → Bool → Option (Bool)
  | 0, _, _ => none
  | k + 1, x0, x32 => if x32 = true then (some false) else ((prim_Integer.f k x0).bind fun bt236 => (if bt236.2 = 0 then ((prim_PutInteger.f k bt236.1).bind fun t238 => (certpathlaw03_PrimCanonical.j1 k x0 (t238.toList != x0.toList))) else (certpathlaw03_PrimCanonical.j1 k x0 false)))
def certpathlaw03_PrimCanonical.j1 : Nat → ByteArray → Bool → Option (Bool)
  | 0, _, _ => none
  | k + 1, x0, x45 => if x45 = true then (some false) else ((prim_Bits.f x0).bind fun bt239 => (if bt239.2.2 = 0 then ((prim_PutBits.f k bt239.1 bt239.2.1).bind fun bt242 => (if bt242.2 = 0 then (if bt242.1.toList = x0.toList then (certpathlaw03_PrimCanonical.j2 k x0) else (some false)) else (some false))) else (certpathlaw03_PrimCanonical.j2 k x0)))
def certpathlaw03_PrimCanonical.j2 : Nat → ByteArray → Option (Bool)
  | 0, _ => none
  | k + 1, x0 => (prim_Flags.f k x0).bind fun bt244 => (if bt244.2 = 0 then ((prim_PutFlags.f k bt244.1).bind fun bt246 => (if bt246.2 = 0 then (if bt246.1.toList = x0.toList then ((certpathlaw03_awake.f k).bind fun t248 => (some t248)) else (some false)) else (some false))) else ((certpathlaw03_awake.f k).bind fun t249 => (some t249)))
end
def certpathlaw03_PrimCanonical.f (k : Nat) (a0 : ByteArray) : Option (Bool) := if (a0.size : Int) > 60 then ((certpathlaw03_awake.f k).bind fun t232 => (some t232)) else ((prim_Boolean.f a0).bind fun bt233 => (if bt233.2 = 0 then ((prim_PutBoolean.f bt233.1).bind fun t235 => (certpathlaw03_PrimCanonical.j0 k a0 (t235.toList != a0.toList))) else (certpathlaw03_PrimCanonical.j0 k a0 false)))
theorem certpathlaw03_PrimCanonical.mono_l : ∀ k, (∀ y0 y1, LeO (certpathlaw03_PrimCanonical.j0 k y0 y1) (certpathlaw03_PrimCanonical.j0 (k + 1) y0 y1)) ∧ (∀ y0 y1, LeO (certpathlaw03_PrimCanonical.j1 k y0 y1) (certpathlaw03_PrimCanonical.j1 (k + 1) y0 y1)) ∧ (∀ y0, LeO (certpathlaw03_PrimCanonical.j2 k y0) (certpathlaw03_PrimCanonical.j2 (k + 1) y0))
  | 0 => ⟨fun _ _ r h => by simp [certpathlaw03_PrimCanonical.j0] at h, fun _ _ r h => by simp [certpathlaw03_PrimCanonical.j1] at h, fun _ r h => by simp [certpathlaw03_PrimCanonical.j2] at h⟩
  | k + 1 => by
    obtain ⟨ih0, ih1, ih2⟩ := certpathlaw03_PrimCanonical.mono_l k
    refine ⟨?_, ?_, ?_⟩
    · intro y0 y1
      unfold certpathlaw03_PrimCanonical.j0
      repeat' first
      | (with_reducible exact ih0 _ _)
      | (with_reducible exact ih1 _ _)
      | (with_reducible exact ih2 _)
      | (with_reducible exact certpathlaw03_awake.mono _)
      | (with_reducible exact prim_Flags.mono _ _)
      | (with_reducible exact prim_Integer.mono _ _)
      | (with_reducible exact prim_PutBits.mono _ _ _)
      | (with_reducible exact prim_PutFlags.mono _ _)
      | (with_reducible exact prim_PutInteger.mono _ _)
      | (with_reducible exact LeO.refl _)
      | (with_reducible exact LeO.none _)
      | (with_reducible refine LeO.ite ?_ ?_)
      | (with_reducible refine LeO.bind ?_ (fun _ => ?_))
      | exact ih0 _ _
      | exact ih1 _ _
      | exact ih2 _
      | exact certpathlaw03_awake.mono _
      | exact prim_Flags.mono _ _
      | exact prim_Integer.mono _ _
      | exact prim_PutBits.mono _ _ _
      | exact prim_PutFlags.mono _ _
      | exact prim_PutInteger.mono _ _
      | exact LeO.none _
      | refine LeO.ite ?_ ?_
      | refine LeO.bind ?_ (fun _ => ?_)
    · intro y0 y1
      unfold certpathlaw03_PrimCanonical.j1
      repeat' first
      | (with_reducible exact ih0 _ _)
      | (with_reducible exact ih1 _ _)
      | (with_reducible exact ih2 _)
      | (with_reducible exact certpathlaw03_awake.mono _)
      | (with_reducible exact prim_Flags.mono _ _)
      | (with_reducible exact prim_Integer.mono _ _)
      | (with_reducible exact prim_PutBits.mono _ _ _)
      | (with_reducible exact prim_PutFlags.mono _ _)
      | (with_reducible exact prim_PutInteger.mono _ _)
      | (with_reducible exact LeO.refl _)
      | (with_reducible exact LeO.none _)
      | (with_reducible refine LeO.ite ?_ ?_)
      | (with_reducible refine LeO.bind ?_ (fun _ => ?_))
      | exact ih0 _ _
      | exact ih1 _ _
      | exact ih2 _
      | exact certpathlaw03_awake.mono _
      | exact prim_Flags.mono _ _
      | exact prim_Integer.mono _ _
      | exact prim_PutBits.mono _ _ _
      | exact prim_PutFlags.mono _ _
      | exact prim_PutInteger.mono _ _
      | exact LeO.none _
      | refine LeO.ite ?_ ?_
      | refine LeO.bind ?_ (fun _ => ?_)
    · intro y0
      unfold certpathlaw03_PrimCanonical.j2
      repeat' first
      | (with_reducible exact ih0 _ _)
      | (with_reducible exact ih1 _ _)
      | (with_reducible exact ih2 _)
      | (with_reducible exact certpathlaw03_awake.mono _)
      | (with_reducible exact prim_Flags.mono _ _)
      | (with_reducible exact prim_Integer.mono _ _)
      | (with_reducible exact prim_PutBits.mono _ _ _)
      | (with_reducible exact prim_PutFlags.mono _ _)
      | (with_reducible exact prim_PutInteger.mono _ _)
      | (with_reducible exact LeO.refl _)
      | (with_reducible exact LeO.none _)
      | (with_reducible refine LeO.ite ?_ ?_)
      | (with_reducible refine LeO.bind ?_ (fun _ => ?_))
      | exact ih0 _ _
      | exact ih1 _ _
      | exact ih2 _
      | exact certpathlaw03_awake.mono _
      | exact prim_Flags.mono _ _
      | exact prim_Integer.mono _ _
      | exact prim_PutBits.mono _ _ _
      | exact prim_PutFlags.mono _ _
      | exact prim_PutInteger.mono _ _
      | exact LeO.none _
      | refine LeO.ite ?_ ?_
      | refine LeO.bind ?_ (fun _ => ?_)
theorem certpathlaw03_PrimCanonical.mono : ∀ a0 k, LeO (certpathlaw03_PrimCanonical.f k a0) (certpathlaw03_PrimCanonical.f (k + 1) a0) := by
  intro a0 k
  obtain ⟨ih0, ih1, ih2⟩ := certpathlaw03_PrimCanonical.mono_l k
  unfold certpathlaw03_PrimCanonical.f
  repeat' first
      | (with_reducible exact ih0 _ _)
      | (with_reducible exact ih1 _ _)
      | (with_reducible exact ih2 _)
      | (with_reducible exact certpathlaw03_awake.mono _)
      | (with_reducible exact prim_Flags.mono _ _)
      | (with_reducible exact prim_Integer.mono _ _)
      | (with_reducible exact prim_PutBits.mono _ _ _)
      | (with_reducible exact prim_PutFlags.mono _ _)
      | (with_reducible exact prim_PutInteger.mono _ _)
      | (with_reducible exact LeO.refl _)
      | (with_reducible exact LeO.none _)
      | (with_reducible refine LeO.ite ?_ ?_)
      | (with_reducible refine LeO.bind ?_ (fun _ => ?_))
      | exact ih0 _ _
      | exact ih1 _ _
      | exact ih2 _
      | exact certpathlaw03_awake.mono _
      | exact prim_Flags.mono _ _
      | exact prim_Integer.mono _ _
      | exact prim_PutBits.mono _ _ _
      | exact prim_PutFlags.mono _ _
      | exact prim_PutInteger.mono _ _
      | exact LeO.none _
      | refine LeO.ite ?_ ?_
      | refine LeO.bind ?_ (fun _ => ?_)
set_option maxHeartbeats 8000000 in
set_option maxRecDepth 100000 in
theorem certpathlaw03_PrimCanonical.calls (k : Nat) (a0 : ByteArray) (r : Bool) (w : World) (h : certpathlaw03_PrimCanonical.f k a0 = some r) :
    Calls Try.prog 8 #[.string a0] w fun e w' => e = .returned (.bool r) ∧ Below w.heap.size w w' := by
  have HB := Aside0.mk (Below.refl w.heap.size w)
  have H : (if (a0.size : Int) > 60 then ((certpathlaw03_awake.f k).bind fun t232 => (some t232)) else ((prim_Boolean.f a0).bind fun bt233 => (if bt233.2 = 0 then ((prim_PutBoolean.f bt233.1).bind fun t235 => (certpathlaw03_PrimCanonical.j0 k a0 (t235.toList != a0.toList))) else (certpathlaw03_PrimCanonical.j0 k a0 false)))) = some r := h
  clear h
  by_cases c2 : (a0.size : Int) > 60
  · rw [if_pos c2] at H
    have c2b0 : decide (60 < (a0.size : Int)) = true := decide_eq_true c2
    have c2b1 : decide (60 < a0.size) = true := decide_eq_true (by omega)
    clear c2
    replace H := Option.bind_eq_some_iff.mp H
    obtain ⟨t232, A30, H⟩ := H
    replace H : (some t232) = some r := H
    have A3 := Aside0.mk A30
    clear A30
    obtain rfl := Option.some.inj H
    go_enter Try.func8, Try.ntmps8
    go_wp2_with (first | ((with_reducible refine gate_callee (f := 9) rfl ?_); refine goesL_ (some 19) rfl rfl Try.func9 (by kernel_rfl) rfl #[] rfl (by (try simp only [List.map_toArray, List.map_cons, List.map_nil]); first | done | rfl | (simp only [List.length_drop, List.length_take]; rfl)) ?_; (with_reducible refine (certpathlaw03_awake.calls k  t232 _ A3.out).mono ?_); rintro e w4 ⟨rfl, hb⟩; refine ⟨_, rfl, ?_⟩; have n0_ := Aside0.mk (below_step (by repeat (first | (with_reducible first | exact HB.out | apply below_alloc | apply pw_below_drewN | apply below_drew1) | exact HB.out)) hb); clear HB; have HB := n0_; clear n0_; (try clear hb); (try clear hb2); (try clear hk); (try clear hi)))
    go_ret
    exact ⟨by first | rfl | (simp [errW_none, errW_some] <;> rfl) | (simp [*, errW_none, errW_some] <;> rfl), by repeat (first | (with_reducible first | exact HB.out | apply below_alloc | apply pw_below_drewN | apply below_drew1) | exact HB.out)⟩
  · rw [if_neg c2] at H
    have c2b0 : decide (60 < (a0.size : Int)) = false := decide_eq_false c2
    have c2b1 : decide (60 < a0.size) = false := decide_eq_false (by omega)
    clear c2
    replace H := Option.bind_eq_some_iff.mp H
    obtain ⟨⟨t233, t234⟩, A50, H⟩ := H
    replace H : (if t234 = 0 then ((prim_PutBoolean.f t233).bind fun t235 => (certpathlaw03_PrimCanonical.j0 k a0 (t235.toList != a0.toList))) else (certpathlaw03_PrimCanonical.j0 k a0 false)) = some r := H
    have A5 := Aside0.mk A50
    clear A50
    have HC6 := Aside0.mk H
    clear H
    go_enter Try.func8, Try.ntmps8
    go_upto_region 4 with (first | ((with_reducible refine gate_callee (f := 14) rfl ?_); refine goesL_ (some 22) rfl rfl Try.func14 (by kernel_rfl) rfl #[.string a0] rfl (by (try simp only [List.map_toArray, List.map_cons, List.map_nil]); first | done | rfl | (simp only [List.length_drop, List.length_take]; rfl)) ?_; (with_reducible refine (prim_Boolean.calls a0 t233 t234 _ A5.out).mono ?_); rintro e w' ⟨rfl, ⟨nd, rfl⟩⟩; refine ⟨_, rfl, ?_⟩))
    (try simp only [Act.put, List.setIfInBounds_toArray, List.set_cons_zero, List.set_cons_succ])
    go_cut [32] (fun v32 wc => ∃ (kq : Nat) (x32_5 : Bool), v32 = .bool x32_5 ∧ Aside0 (certpathlaw03_PrimCanonical.j0 kq a0 x32_5 = some r) ∧ Aside0 (kq ≤ k) ∧ Aside0 (Below w.heap.size w wc))
    case first =>
      have H := HC6.out
      clear HC6
      by_cases c7 : t234 = 0
      · rw [if_pos c7] at H
        have c7b0 : (t234 == 0) = true := beq_iff_eq.mpr c7
        have c7b1 : (t234 != 0) = false := bne_eq_false_iff_eq.mpr c7
        clear c7
        (first | rw [c7b0] | (simp only [i64_w, i32_w]; rw [c7b0]) | skip)
        replace H := Option.bind_eq_some_iff.mp H
        obtain ⟨t235, A80, H⟩ := H
        replace H : (certpathlaw03_PrimCanonical.j0 k a0 (t235.toList != a0.toList)) = some r := H
        have A8 := Aside0.mk A80
        clear A80
        have H' := Aside0.mk H
        clear H
        go_wp2_with (first | (go_at_call 16; (with_reducible refine (prim_PutBoolean.calls t233 t235 _ A8.out).mono ?_); rintro e w' ⟨rfl, ⟨nd, rfl⟩⟩))
        go_meet
        case rel => exact ⟨_, ((t235.toList != a0.toList)), (by first | rfl | (simp; done) | (simp [*]; done)), H', ⟨by first | omega | exact Nat.le_refl _⟩, ⟨by repeat (first | (with_reducible first | exact HB.out | apply below_alloc | apply pw_below_drewN | apply below_drew1) | exact HB.out)⟩⟩
      · rw [if_neg c7] at H
        have c7b0 : (t234 == 0) = false := beq_eq_false_iff_ne.mpr c7
        have c7b1 : (t234 != 0) = true := bne_iff_ne.mpr c7
        (first | rw [c7b0] | (simp only [i64_w, i32_w]; rw [c7b0]) | skip)
        have H' := Aside0.mk H
        clear H
        go_wp2
        go_meet
        case rel => exact ⟨_, (false), (by first | rfl | (simp; done) | (simp [*]; done)), H', ⟨by first | omega | exact Nat.le_refl _⟩, ⟨by repeat (first | (with_reducible first | exact HB.out | apply below_alloc | apply pw_below_drewN | apply below_drew1) | exact HB.out)⟩⟩
    case rest =>
      clear HC6
      try clear c1
      try clear c2
      try clear c2b0
      try clear c2b1
      try clear p2
      try clear c7
      try clear c7b0
      try clear c7b1
      try clear c8
      obtain ⟨kq, x32_5, rfl, HA, HJ5, HB⟩ := hcut
      cases kq with
      | zero => exact absurd HA.out (by simp [certpathlaw03_PrimCanonical.j0])
      | succ kj5 =>
        have H := HA.out
        clear HA
        simp only [certpathlaw03_PrimCanonical.j0] at H
        by_cases c9 : x32_5 = true
        · subst c9
          have H1 : (some false) = some r := by rw [if_pos rfl] at H; exact H
          clear H
          have H := H1
          clear H1
          obtain rfl := Option.some.inj H
          go_wp2
          go_ret
          exact ⟨by first | rfl | (simp [errW_none, errW_some] <;> rfl) | (simp [*, errW_none, errW_some] <;> rfl), by repeat (first | (with_reducible first | exact HB.out | apply below_alloc | apply pw_below_drewN | apply below_drew1) | exact HB.out)⟩
        · replace c9 := Bool.eq_false_iff.mpr c9
          subst c9
          have H1 : ((prim_Integer.f kj5 a0).bind fun bt236 => (if bt236.2 = 0 then ((prim_PutInteger.f kj5 bt236.1).bind fun t238 => (certpathlaw03_PrimCanonical.j1 kj5 a0 (t238.toList != a0.toList))) else (certpathlaw03_PrimCanonical.j1 kj5 a0 false))) = some r := by rw [if_neg (show ¬ (false = true) by decide)] at H; exact H
          clear H
          have H := H1
          clear H1
          replace H := Option.bind_eq_some_iff.mp H
          obtain ⟨⟨t236, t237⟩, A100, H⟩ := H
          replace H : (if t237 = 0 then ((prim_PutInteger.f kj5 t236).bind fun t238 => (certpathlaw03_PrimCanonical.j1 kj5 a0 (t238.toList != a0.toList))) else (certpathlaw03_PrimCanonical.j1 kj5 a0 false)) = some r := H
          have A10 := Aside0.mk A100
          clear A100
          have HC11 := Aside0.mk H
          clear H
          go_upto_region 7 with (first | ((with_reducible refine gate_callee (f := 10) rfl ?_); refine goesL_ (some 35) rfl rfl Try.func10 (by kernel_rfl) rfl #[.string a0] rfl (by (try simp only [List.map_toArray, List.map_cons, List.map_nil]); first | done | rfl | (simp only [List.length_drop, List.length_take]; rfl)) ?_; (with_reducible refine (prim_Integer.calls kj5 a0 t236 t237 _ A10.out).mono ?_); rintro e w' ⟨rfl, ⟨nd, rfl⟩⟩; refine ⟨_, rfl, ?_⟩))
          (try simp only [Act.put, List.setIfInBounds_toArray, List.set_cons_zero, List.set_cons_succ])
          go_cut [45] (fun v45 wc => ∃ (kq : Nat) (x45_10 : Bool), v45 = .bool x45_10 ∧ Aside0 (certpathlaw03_PrimCanonical.j1 kq a0 x45_10 = some r) ∧ Aside0 (kq ≤ kj5) ∧ Aside0 (Below w.heap.size w wc))
          case first =>
            have H := HC11.out
            clear HC11
            by_cases c12 : t237 = 0
            · rw [if_pos c12] at H
              have c12b0 : (t237 == 0) = true := beq_iff_eq.mpr c12
              have c12b1 : (t237 != 0) = false := bne_eq_false_iff_eq.mpr c12
              clear c12
              (first | rw [c12b0] | (simp only [i64_w, i32_w]; rw [c12b0]) | skip)
              replace H := Option.bind_eq_some_iff.mp H
              obtain ⟨t238, A130, H⟩ := H
              replace H : (certpathlaw03_PrimCanonical.j1 kj5 a0 (t238.toList != a0.toList)) = some r := H
              have A13 := Aside0.mk A130
              clear A130
              have H' := Aside0.mk H
              clear H
              go_wp2_with (first | (go_at_call 12; (with_reducible refine (prim_PutInteger.calls kj5 t236 t238 _ A13.out).mono ?_); rintro e w14 ⟨rfl, hb⟩; have n0_ := Aside0.mk (below_step (by repeat (first | (with_reducible first | exact HB.out | apply below_alloc | apply pw_below_drewN | apply below_drew1) | exact HB.out)) hb); clear HB; have HB := n0_; clear n0_; (try clear hb); (try clear hb2); (try clear hk); (try clear hi)))
              go_meet
              case rel => exact ⟨_, ((t238.toList != a0.toList)), (by first | rfl | (simp; done) | (simp [*]; done)), H', ⟨by have := HJ5.out; first | omega | exact Nat.le_refl _⟩, ⟨by repeat (first | (with_reducible first | exact HB.out | apply below_alloc | apply pw_below_drewN | apply below_drew1) | exact HB.out)⟩⟩
            · rw [if_neg c12] at H
              have c12b0 : (t237 == 0) = false := beq_eq_false_iff_ne.mpr c12
              have c12b1 : (t237 != 0) = true := bne_iff_ne.mpr c12
              (first | rw [c12b0] | (simp only [i64_w, i32_w]; rw [c12b0]) | skip)
              have H' := Aside0.mk H
              clear H
              go_wp2
              go_meet
              case rel => exact ⟨_, (false), (by first | rfl | (simp; done) | (simp [*]; done)), H', ⟨by have := HJ5.out; first | omega | exact Nat.le_refl _⟩, ⟨by repeat (first | (with_reducible first | exact HB.out | apply below_alloc | apply pw_below_drewN | apply below_drew1) | exact HB.out)⟩⟩
          case rest =>
            clear HC11
            try clear c1
            try clear c2
            try clear c2b0
            try clear c2b1
            try clear p2
            try clear c7
            try clear c7b0
            try clear c7b1
            try clear c8
            try clear c9
            try clear c10
            try clear c12
            try clear c12b0
            try clear c12b1
            try clear c14
            try clear p2
            obtain ⟨kq, x45_10, rfl, HA, HJ10, HB⟩ := hcut
            cases kq with
            | zero => exact absurd HA.out (by simp [certpathlaw03_PrimCanonical.j1])
            | succ kj10 =>
              have H := HA.out
              clear HA
              simp only [certpathlaw03_PrimCanonical.j1] at H
              by_cases c15 : x45_10 = true
              · subst c15
                have H1 : (some false) = some r := by rw [if_pos rfl] at H; exact H
                clear H
                have H := H1
                clear H1
                obtain rfl := Option.some.inj H
                go_wp2
                go_ret
                exact ⟨by first | rfl | (simp [errW_none, errW_some] <;> rfl) | (simp [*, errW_none, errW_some] <;> rfl), by repeat (first | (with_reducible first | exact HB.out | apply below_alloc | apply pw_below_drewN | apply below_drew1) | exact HB.out)⟩
              · replace c15 := Bool.eq_false_iff.mpr c15
                subst c15
                have H1 : ((prim_Bits.f a0).bind fun bt239 => (if bt239.2.2 = 0 then ((prim_PutBits.f kj10 bt239.1 bt239.2.1).bind fun bt242 => (if bt242.2 = 0 then (if bt242.1.toList = a0.toList then (certpathlaw03_PrimCanonical.j2 kj10 a0) else (some false)) else (some false))) else (certpathlaw03_PrimCanonical.j2 kj10 a0))) = some r := by rw [if_neg (show ¬ (false = true) by decide)] at H; exact H
                clear H
                have H := H1
                clear H1
                replace H := Option.bind_eq_some_iff.mp H
                obtain ⟨⟨t239, t240, t241⟩, A160, H⟩ := H
                replace H : (if t241 = 0 then ((prim_PutBits.f kj10 t239 t240).bind fun bt242 => (if bt242.2 = 0 then (if bt242.1.toList = a0.toList then (certpathlaw03_PrimCanonical.j2 kj10 a0) else (some false)) else (some false))) else (certpathlaw03_PrimCanonical.j2 kj10 a0)) = some r := H
                have A16 := Aside0.mk A160
                clear A160
                have HC17 := Aside0.mk H
                clear H
                go_upto_if 53 with (first | ((with_reducible refine gate_callee (f := 18) rfl ?_); refine goesL_ (some 48) rfl rfl Try.func18 (by kernel_rfl) rfl #[.string a0] rfl (by (try simp only [List.map_toArray, List.map_cons, List.map_nil]); first | done | rfl | (simp only [List.length_drop, List.length_take]; rfl)) ?_; (with_reducible refine (prim_Bits.calls a0 t239 t240 t241 _ A16.out).mono ?_); rintro e w' ⟨rfl, ⟨nd, rfl⟩⟩; refine ⟨_, rfl, ?_⟩))
                (try simp only [Act.put, List.setIfInBounds_toArray, List.set_cons_zero, List.set_cons_succ])
                go_cut [] (fun wc => ∃ (kq : Nat), Aside0 (certpathlaw03_PrimCanonical.j2 kq a0 = some r) ∧ Aside0 (kq ≤ kj10) ∧ Aside0 (Below w.heap.size w wc))
                case first =>
                  have H := HC17.out
                  clear HC17
                  by_cases c18 : t241 = 0
                  · rw [if_pos c18] at H
                    have c18b0 : (t241 == 0) = true := beq_iff_eq.mpr c18
                    have c18b1 : (t241 != 0) = false := bne_eq_false_iff_eq.mpr c18
                    clear c18
                    (first | rw [c18b0] | (simp only [i64_w, i32_w]; rw [c18b0]) | skip)
                    replace H := Option.bind_eq_some_iff.mp H
                    obtain ⟨⟨t242, t243⟩, A190, H⟩ := H
                    replace H : (if t243 = 0 then (if t242.toList = a0.toList then (certpathlaw03_PrimCanonical.j2 kj10 a0) else (some false)) else (some false)) = some r := H
                    have A19 := Aside0.mk A190
                    clear A190
                    by_cases c20 : t243 = 0
                    · rw [if_pos c20] at H
                      have c20b0 : (t243 == 0) = true := beq_iff_eq.mpr c20
                      have c20b1 : (t243 != 0) = false := bne_eq_false_iff_eq.mpr c20
                      clear c20
                      by_cases c21 : t242.toList = a0.toList
                      · rw [if_pos c21] at H
                        have c21b0 : (t242.toList == a0.toList) = true := beq_iff_eq.mpr c21
                        have c21b1 : (t242.toList != a0.toList) = false := bne_eq_false_iff_eq.mpr c21
                        clear c21
                        have H' := Aside0.mk H
                        clear H
                        go_wp2_with (first | ((with_reducible refine gate_callee (f := 20) rfl ?_); refine goesL_ (some 57) rfl rfl Try.func20 (by kernel_rfl) rfl #[.string t239, .int .i64 t240] rfl (by (try simp only [List.map_toArray, List.map_cons, List.map_nil]); first | done | rfl | (simp only [List.length_drop, List.length_take]; rfl)) ?_; (with_reducible refine (prim_PutBits.calls kj10 t239 t240 t242 t243 _ A19.out).mono ?_); rintro e w22 ⟨rfl, hb⟩; refine ⟨_, rfl, ?_⟩; have n0_ := Aside0.mk (below_step (by repeat (first | (with_reducible first | exact HB.out | apply below_alloc | apply pw_below_drewN | apply below_drew1) | exact HB.out)) hb); clear HB; have HB := n0_; clear n0_; (try clear hb); (try clear hb2); (try clear hk); (try clear hi)))
                        go_meet
                        case rel => exact ⟨_, H', ⟨by have := HJ5.out; have := HJ10.out; first | omega | exact Nat.le_refl _⟩, ⟨by repeat (first | (with_reducible first | exact HB.out | apply below_alloc | apply pw_below_drewN | apply below_drew1) | exact HB.out)⟩⟩
                      · rw [if_neg c21] at H
                        have c21b0 : (t242.toList == a0.toList) = false := beq_eq_false_iff_ne.mpr c21
                        have c21b1 : (t242.toList != a0.toList) = true := bne_iff_ne.mpr c21
                        obtain rfl := Option.some.inj H
                        go_wp2_with (first | ((with_reducible refine gate_callee (f := 20) rfl ?_); refine goesL_ (some 57) rfl rfl Try.func20 (by kernel_rfl) rfl #[.string t239, .int .i64 t240] rfl (by (try simp only [List.map_toArray, List.map_cons, List.map_nil]); first | done | rfl | (simp only [List.length_drop, List.length_take]; rfl)) ?_; (with_reducible refine (prim_PutBits.calls kj10 t239 t240 t242 t243 _ A19.out).mono ?_); rintro e w23 ⟨rfl, hb⟩; refine ⟨_, rfl, ?_⟩; have n0_ := Aside0.mk (below_step (by repeat (first | (with_reducible first | exact HB.out | apply below_alloc | apply pw_below_drewN | apply below_drew1) | exact HB.out)) hb); clear HB; have HB := n0_; clear n0_; (try clear hb); (try clear hb2); (try clear hk); (try clear hi)))
                        go_ret
                        exact ⟨by first | rfl | (simp [errW_none, errW_some] <;> rfl) | (simp [*, errW_none, errW_some] <;> rfl), by repeat (first | (with_reducible first | exact HB.out | apply below_alloc | apply pw_below_drewN | apply below_drew1) | exact HB.out)⟩
                    · rw [if_neg c20] at H
                      have c20b0 : (t243 == 0) = false := beq_eq_false_iff_ne.mpr c20
                      have c20b1 : (t243 != 0) = true := bne_iff_ne.mpr c20
                      obtain rfl := Option.some.inj H
                      go_wp2_with (first | ((with_reducible refine gate_callee (f := 20) rfl ?_); refine goesL_ (some 57) rfl rfl Try.func20 (by kernel_rfl) rfl #[.string t239, .int .i64 t240] rfl (by (try simp only [List.map_toArray, List.map_cons, List.map_nil]); first | done | rfl | (simp only [List.length_drop, List.length_take]; rfl)) ?_; (with_reducible refine (prim_PutBits.calls kj10 t239 t240 t242 t243 _ A19.out).mono ?_); rintro e w24 ⟨rfl, hb⟩; refine ⟨_, rfl, ?_⟩; have n0_ := Aside0.mk (below_step (by repeat (first | (with_reducible first | exact HB.out | apply below_alloc | apply pw_below_drewN | apply below_drew1) | exact HB.out)) hb); clear HB; have HB := n0_; clear n0_; (try clear hb); (try clear hb2); (try clear hk); (try clear hi)))
                      go_ret
                      exact ⟨by first | rfl | (simp [errW_none, errW_some] <;> rfl) | (simp [*, errW_none, errW_some] <;> rfl), by repeat (first | (with_reducible first | exact HB.out | apply below_alloc | apply pw_below_drewN | apply below_drew1) | exact HB.out)⟩
                  · rw [if_neg c18] at H
                    have c18b0 : (t241 == 0) = false := beq_eq_false_iff_ne.mpr c18
                    have c18b1 : (t241 != 0) = true := bne_iff_ne.mpr c18
                    (first | rw [c18b0] | (simp only [i64_w, i32_w]; rw [c18b0]) | skip)
                    have H' := Aside0.mk H
                    clear H
                    go_wp2
                    go_meet
                    case rel => exact ⟨_, H', ⟨by have := HJ5.out; have := HJ10.out; first | omega | exact Nat.le_refl _⟩, ⟨by repeat (first | (with_reducible first | exact HB.out | apply below_alloc | apply pw_below_drewN | apply below_drew1) | exact HB.out)⟩⟩
                case rest =>
                  clear HC17
                  try clear c1
                  try clear c2
                  try clear c2b0
                  try clear c2b1
                  try clear p2
                  try clear c7
                  try clear c7b0
                  try clear c7b1
                  try clear c8
                  try clear c9
                  try clear c10
                  try clear c12
                  try clear c12b0
                  try clear c12b1
                  try clear c14
                  try clear c15
                  try clear c18
                  try clear c18b0
                  try clear c18b1
                  try clear c20
                  try clear c20b0
                  try clear c20b1
                  try clear c21
                  try clear c21b0
                  try clear c21b1
                  try clear p2
                  obtain ⟨kq, HA, HJ16, HB⟩ := hcut
                  cases kq with
                  | zero => exact absurd HA.out (by simp [certpathlaw03_PrimCanonical.j2])
                  | succ kj16 =>
                    have H := HA.out
                    clear HA
                    simp only [certpathlaw03_PrimCanonical.j2] at H
                    replace H := Option.bind_eq_some_iff.mp H
                    obtain ⟨⟨t244, t245⟩, A250, H⟩ := H
                    replace H : (if t245 = 0 then ((prim_PutFlags.f kj16 t244).bind fun bt246 => (if bt246.2 = 0 then (if bt246.1.toList = a0.toList then ((certpathlaw03_awake.f kj16).bind fun t248 => (some t248)) else (some false)) else (some false))) else ((certpathlaw03_awake.f kj16).bind fun t249 => (some t249))) = some r := H
                    have A25 := Aside0.mk A250
                    clear A250
                    by_cases c26 : t245 = 0
                    · rw [if_pos c26] at H
                      have c26b0 : (t245 == 0) = true := beq_iff_eq.mpr c26
                      have c26b1 : (t245 != 0) = false := bne_eq_false_iff_eq.mpr c26
                      clear c26
                      replace H := Option.bind_eq_some_iff.mp H
                      obtain ⟨⟨t246, t247⟩, A270, H⟩ := H
                      replace H : (if t247 = 0 then (if t246.toList = a0.toList then ((certpathlaw03_awake.f kj16).bind fun t248 => (some t248)) else (some false)) else (some false)) = some r := H
                      have A27 := Aside0.mk A270
                      clear A270
                      by_cases c28 : t247 = 0
                      · rw [if_pos c28] at H
                        have c28b0 : (t247 == 0) = true := beq_iff_eq.mpr c28
                        have c28b1 : (t247 != 0) = false := bne_eq_false_iff_eq.mpr c28
                        clear c28
                        by_cases c29 : t246.toList = a0.toList
                        · rw [if_pos c29] at H
                          have c29b0 : (t246.toList == a0.toList) = true := beq_iff_eq.mpr c29
                          have c29b1 : (t246.toList != a0.toList) = false := bne_eq_false_iff_eq.mpr c29
                          clear c29
                          replace H := Option.bind_eq_some_iff.mp H
                          obtain ⟨t248, A300, H⟩ := H
                          replace H : (some t248) = some r := H
                          have A30 := Aside0.mk A300
                          clear A300
                          obtain rfl := Option.some.inj H
                          go_wp2_with (first | ((with_reducible refine gate_callee (f := 22) rfl ?_); refine goesL_ (some 69) rfl rfl Try.func22 (by kernel_rfl) rfl #[.string a0] rfl (by (try simp only [List.map_toArray, List.map_cons, List.map_nil]); first | done | rfl | (simp only [List.length_drop, List.length_take]; rfl)) ?_; (with_reducible refine (prim_Flags.calls kj16 a0 t244 t245 _ A25.out).mono ?_); rintro e w' ⟨rfl, ⟨nd, rfl⟩⟩; refine ⟨_, rfl, ?_⟩) | ((with_reducible refine gate_callee (f := 24) rfl ?_); refine goesL_ (some 76) rfl rfl Try.func24 (by kernel_rfl) rfl #[.int .i64 t244] rfl (by (try simp only [List.map_toArray, List.map_cons, List.map_nil]); first | done | rfl | (simp only [List.length_drop, List.length_take]; rfl)) ?_; (with_reducible refine (prim_PutFlags.calls kj16 t244 t246 t247 _ A27.out).mono ?_); rintro e w31 ⟨rfl, hb⟩; refine ⟨_, rfl, ?_⟩; have n0_ := Aside0.mk (below_step (by repeat (first | (with_reducible first | exact HB.out | apply below_alloc | apply pw_below_drewN | apply below_drew1) | exact HB.out)) hb); clear HB; have HB := n0_; clear n0_; (try clear hb); (try clear hb2); (try clear hk); (try clear hi)) | ((with_reducible refine gate_callee (f := 9) rfl ?_); refine goesL_ (some 86) rfl rfl Try.func9 (by kernel_rfl) rfl #[] rfl (by (try simp only [List.map_toArray, List.map_cons, List.map_nil]); first | done | rfl | (simp only [List.length_drop, List.length_take]; rfl)) ?_; (with_reducible refine (certpathlaw03_awake.calls kj16  t248 _ A30.out).mono ?_); rintro e w32 ⟨rfl, hb⟩; refine ⟨_, rfl, ?_⟩; have n0_ := Aside0.mk (below_step (by repeat (first | (with_reducible first | exact HB.out | apply below_alloc | apply pw_below_drewN | apply below_drew1) | exact HB.out)) hb); clear HB; have HB := n0_; clear n0_; (try clear hb); (try clear hb2); (try clear hk); (try clear hi)))
                          go_ret
                          exact ⟨by first | rfl | (simp [errW_none, errW_some] <;> rfl) | (simp [*, errW_none, errW_some] <;> rfl), by repeat (first | (with_reducible first | exact HB.out | apply below_alloc | apply pw_below_drewN | apply below_drew1) | exact HB.out)⟩
                        · rw [if_neg c29] at H
                          have c29b0 : (t246.toList == a0.toList) = false := beq_eq_false_iff_ne.mpr c29
                          have c29b1 : (t246.toList != a0.toList) = true := bne_iff_ne.mpr c29
                          obtain rfl := Option.some.inj H
                          go_wp2_with (first | ((with_reducible refine gate_callee (f := 22) rfl ?_); refine goesL_ (some 69) rfl rfl Try.func22 (by kernel_rfl) rfl #[.string a0] rfl (by (try simp only [List.map_toArray, List.map_cons, List.map_nil]); first | done | rfl | (simp only [List.length_drop, List.length_take]; rfl)) ?_; (with_reducible refine (prim_Flags.calls kj16 a0 t244 t245 _ A25.out).mono ?_); rintro e w' ⟨rfl, ⟨nd, rfl⟩⟩; refine ⟨_, rfl, ?_⟩) | ((with_reducible refine gate_callee (f := 24) rfl ?_); refine goesL_ (some 76) rfl rfl Try.func24 (by kernel_rfl) rfl #[.int .i64 t244] rfl (by (try simp only [List.map_toArray, List.map_cons, List.map_nil]); first | done | rfl | (simp only [List.length_drop, List.length_take]; rfl)) ?_; (with_reducible refine (prim_PutFlags.calls kj16 t244 t246 t247 _ A27.out).mono ?_); rintro e w33 ⟨rfl, hb⟩; refine ⟨_, rfl, ?_⟩; have n0_ := Aside0.mk (below_step (by repeat (first | (with_reducible first | exact HB.out | apply below_alloc | apply pw_below_drewN | apply below_drew1) | exact HB.out)) hb); clear HB; have HB := n0_; clear n0_; (try clear hb); (try clear hb2); (try clear hk); (try clear hi)))
                          go_ret
                          exact ⟨by first | rfl | (simp [errW_none, errW_some] <;> rfl) | (simp [*, errW_none, errW_some] <;> rfl), by repeat (first | (with_reducible first | exact HB.out | apply below_alloc | apply pw_below_drewN | apply below_drew1) | exact HB.out)⟩
                      · rw [if_neg c28] at H
                        have c28b0 : (t247 == 0) = false := beq_eq_false_iff_ne.mpr c28
                        have c28b1 : (t247 != 0) = true := bne_iff_ne.mpr c28
                        obtain rfl := Option.some.inj H
                        go_wp2_with (first | ((with_reducible refine gate_callee (f := 22) rfl ?_); refine goesL_ (some 69) rfl rfl Try.func22 (by kernel_rfl) rfl #[.string a0] rfl (by (try simp only [List.map_toArray, List.map_cons, List.map_nil]); first | done | rfl | (simp only [List.length_drop, List.length_take]; rfl)) ?_; (with_reducible refine (prim_Flags.calls kj16 a0 t244 t245 _ A25.out).mono ?_); rintro e w' ⟨rfl, ⟨nd, rfl⟩⟩; refine ⟨_, rfl, ?_⟩) | ((with_reducible refine gate_callee (f := 24) rfl ?_); refine goesL_ (some 76) rfl rfl Try.func24 (by kernel_rfl) rfl #[.int .i64 t244] rfl (by (try simp only [List.map_toArray, List.map_cons, List.map_nil]); first | done | rfl | (simp only [List.length_drop, List.length_take]; rfl)) ?_; (with_reducible refine (prim_PutFlags.calls kj16 t244 t246 t247 _ A27.out).mono ?_); rintro e w34 ⟨rfl, hb⟩; refine ⟨_, rfl, ?_⟩; have n0_ := Aside0.mk (below_step (by repeat (first | (with_reducible first | exact HB.out | apply below_alloc | apply pw_below_drewN | apply below_drew1) | exact HB.out)) hb); clear HB; have HB := n0_; clear n0_; (try clear hb); (try clear hb2); (try clear hk); (try clear hi)))
                        go_ret
                        exact ⟨by first | rfl | (simp [errW_none, errW_some] <;> rfl) | (simp [*, errW_none, errW_some] <;> rfl), by repeat (first | (with_reducible first | exact HB.out | apply below_alloc | apply pw_below_drewN | apply below_drew1) | exact HB.out)⟩
                    · rw [if_neg c26] at H
                      have c26b0 : (t245 == 0) = false := beq_eq_false_iff_ne.mpr c26
                      have c26b1 : (t245 != 0) = true := bne_iff_ne.mpr c26
                      replace H := Option.bind_eq_some_iff.mp H
                      obtain ⟨t249, A350, H⟩ := H
                      replace H : (some t249) = some r := H
                      have A35 := Aside0.mk A350
                      clear A350
                      obtain rfl := Option.some.inj H
                      go_wp2_with (first | ((with_reducible refine gate_callee (f := 22) rfl ?_); refine goesL_ (some 69) rfl rfl Try.func22 (by kernel_rfl) rfl #[.string a0] rfl (by (try simp only [List.map_toArray, List.map_cons, List.map_nil]); first | done | rfl | (simp only [List.length_drop, List.length_take]; rfl)) ?_; (with_reducible refine (prim_Flags.calls kj16 a0 t244 t245 _ A25.out).mono ?_); rintro e w' ⟨rfl, ⟨nd, rfl⟩⟩; refine ⟨_, rfl, ?_⟩) | ((with_reducible refine gate_callee (f := 9) rfl ?_); refine goesL_ (some 86) rfl rfl Try.func9 (by kernel_rfl) rfl #[] rfl (by (try simp only [List.map_toArray, List.map_cons, List.map_nil]); first | done | rfl | (simp only [List.length_drop, List.length_take]; rfl)) ?_; (with_reducible refine (certpathlaw03_awake.calls kj16  t249 _ A35.out).mono ?_); rintro e w36 ⟨rfl, hb⟩; refine ⟨_, rfl, ?_⟩; have n0_ := Aside0.mk (below_step (by repeat (first | (with_reducible first | exact HB.out | apply below_alloc | apply pw_below_drewN | apply below_drew1) | exact HB.out)) hb); clear HB; have HB := n0_; clear n0_; (try clear hb); (try clear hb2); (try clear hk); (try clear hi)))
                      go_ret
                      exact ⟨by first | rfl | (simp [errW_none, errW_some] <;> rfl) | (simp [*, errW_none, errW_some] <;> rfl), by repeat (first | (with_reducible first | exact HB.out | apply below_alloc | apply pw_below_drewN | apply below_drew1) | exact HB.out)⟩

/-- THE ONE PURE STATEMENT of certpathlaw03_PrimCanonical: yours. -/
def certpathlaw03_PrimCanonical.Pure : Prop := ∀ (a0 : ByteArray), a0.size ≤ 140737488351232 → ∃ k, certpathlaw03_PrimCanonical.f k a0 = some true
theorem certpathlaw03_PrimCanonical.walk (P : certpathlaw03_PrimCanonical.Pure) (a0 : ByteArray) (w : World) (w0 : a0.size ≤ 140737488351232) :
    Calls Try.prog 8 #[.string a0] w fun e w' => e = .returned (.bool true) ∧ Below w.heap.size w w' := by
  obtain ⟨k, h⟩ := P a0 w0
  refine (certpathlaw03_PrimCanonical.calls k a0 true w h).mono ?_
  rintro e w' ⟨rfl, hd⟩
  exact ⟨rfl, hd⟩

end Go.Proofs.Ytpiakeejfggocaa.Q
