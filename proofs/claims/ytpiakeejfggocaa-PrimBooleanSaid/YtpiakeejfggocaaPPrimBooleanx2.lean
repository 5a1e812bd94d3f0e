-- PRINTED BY print.sh 35421559b90ae4d0a3588c463048766b98c2df88dd9212a6774a882060cdf62d: not written by this session
import Derived.Test.YtpiakeejfggocaaPPrimBooleanx0
import Derived.Test.YtpiakeejfggocaaPPrimBooleanx1
namespace Go.Proofs.Ytpiakeejfggocaa.PPrimBoolean
open Go.RowKit Go.Proofs.YtpiakeejfggocaaW.PrintWords Go.Proofs.YtpiakeejfggocaaW.PrintLast Go.Proofs.YtpiakeejfggocaaW.PrintMore
attribute [local go_sem] max2_int min2_int max_two min_two max_three min_three max_four min_four   -- for this text's walks alone
set_option linter.unusedVariables false
set_option linter.unusedSimpArgs false

/-! ### certpathlaw03_PrimBoolean: function 5 -/
def certpathlaw03_PrimBoolean.l0 : Nat → Bool → List ByteArray → Int → Int → Option (Bool)
  | 0, _, _, _, _ => none
  | k + 1, x1, x16, x17, x18 => if x18 < x17 then (if 0 ≤ x18 then (if x18 < (x16.length : Int) then ((prim_Boolean.f (rdOf ByteArray.empty x16 x18)).bind fun bt122 => ((certpathref01_Boolean.f (rdOf ByteArray.empty x16 x18)).bind fun bt124 => (if (bt122.1 != bt124.1) = true then (some false) else (if bt122.2 = bt124.2 then (certpathlaw03_PrimBoolean.l0 k x1 x16 x17 (wrap64 (x18 + 1))) else (some false))))) else (none)) else (none)) else ((certpathlaw03_awake.f k).bind fun t118 => (if t118 = true then ((prim_PutBoolean.f x1).bind fun t119 => ((certpathref01_PutBoolean.f x1).bind fun t120 => (some (t119.toList == t120.toList)))) else (some false)))
def certpathlaw03_PrimBoolean.f (k : Nat) (a0 : ByteArray) (a1 : Bool) : Option (Bool) := if (a0.size : Int) > 20 then ((certpathlaw03_awake.f k).bind fun t114 => (some t114)) else ((some (([a0, (⟨#[0]⟩ : ByteArray), (⟨#[255]⟩ : ByteArray), (⟨#[1]⟩ : ByteArray)] : List ByteArray) : List ByteArray)).bind fun y115 => (certpathlaw03_PrimBoolean.l0 k a1 y115 (y115.length : Int) 0))
theorem certpathlaw03_PrimBoolean.mono_l : ∀ k, (∀ y0 y1 y2 y3, LeO (certpathlaw03_PrimBoolean.l0 k y0 y1 y2 y3) (certpathlaw03_PrimBoolean.l0 (k + 1) y0 y1 y2 y3))
  | 0 => fun _ _ _ _ r h => by simp [certpathlaw03_PrimBoolean.l0] at h
  | k + 1 => by
    have ih0 := certpathlaw03_PrimBoolean.mono_l k
    · intro y0 y1 y2 y3
      unfold certpathlaw03_PrimBoolean.l0
      repeat' first
      | (with_reducible exact ih0 _ _ _ _)
      | (with_reducible exact certpathlaw03_awake.mono _)
      | (with_reducible exact LeO.refl _)
      | (with_reducible exact LeO.none _)
      | (with_reducible refine LeO.ite ?_ ?_)
      | (with_reducible refine LeO.bind ?_ (fun _ => ?_))
      | exact ih0 _ _ _ _
      | exact certpathlaw03_awake.mono _
      | exact LeO.none _
      | refine LeO.ite ?_ ?_
      | refine LeO.bind ?_ (fun _ => ?_)
theorem certpathlaw03_PrimBoolean.mono : ∀ a0 a1 k, LeO (certpathlaw03_PrimBoolean.f k a0 a1) (certpathlaw03_PrimBoolean.f (k + 1) a0 a1) := by
  intro a0 a1 k
  have ih0 := certpathlaw03_PrimBoolean.mono_l k
  unfold certpathlaw03_PrimBoolean.f
  repeat' first
      | (with_reducible exact ih0 _ _ _ _)
      | (with_reducible exact certpathlaw03_awake.mono _)
      | (with_reducible exact LeO.refl _)
      | (with_reducible exact LeO.none _)
      | (with_reducible refine LeO.ite ?_ ?_)
      | (with_reducible refine LeO.bind ?_ (fun _ => ?_))
      | exact ih0 _ _ _ _
      | exact certpathlaw03_awake.mono _
      | exact LeO.none _
      | refine LeO.ite ?_ ?_
      | refine LeO.bind ?_ (fun _ => ?_)
set_option maxHeartbeats 8000000 in
set_option maxRecDepth 100000 in
theorem certpathlaw03_PrimBoolean.calls (k : Nat) (a0 : ByteArray) (a1 : Bool) (r : Bool) (w : World) (h : certpathlaw03_PrimBoolean.f k a0 a1 = some r) :
    Calls Try.prog 5 #[.string a0, .bool a1] w fun e w' => e = .returned (.bool r) ∧ Below w.heap.size w w' := by
  have HB := Aside0.mk (Below.refl w.heap.size w)
  have H : (if (a0.size : Int) > 20 then ((certpathlaw03_awake.f k).bind fun t114 => (some t114)) else ((some (([a0, (⟨#[0]⟩ : ByteArray), (⟨#[255]⟩ : ByteArray), (⟨#[1]⟩ : ByteArray)] : List ByteArray) : List ByteArray)).bind fun y115 => (certpathlaw03_PrimBoolean.l0 k a1 y115 (y115.length : Int) 0))) = some r := h
  clear h
  by_cases c3 : (a0.size : Int) > 20
  · rw [if_pos c3] at H
    have c3b0 : decide (20 < (a0.size : Int)) = true := decide_eq_true c3
    have c3b1 : decide (20 < a0.size) = true := decide_eq_true (by omega)
    clear c3
    replace H := Option.bind_eq_some_iff.mp H
    obtain ⟨t114, A40, H⟩ := H
    replace H : (some t114) = some r := H
    have A4 := Aside0.mk A40
    clear A40
    obtain rfl := Option.some.inj H
    go_enter Try.func5, Try.ntmps5
    go_wp2_with (first | ((with_reducible refine gate_callee (f := 9) rfl ?_); refine goesL_ (some 14) rfl rfl Try.func9 (by kernel_rfl) rfl #[] rfl (by (try simp only [List.map_toArray, List.map_cons, List.map_nil]); first | done | rfl | (simp only [List.length_drop, List.length_take]; rfl)) ?_; (with_reducible refine (certpathlaw03_awake.calls k  t114 _ A4.out).mono ?_); rintro e w5 ⟨rfl, hb⟩; refine ⟨_, rfl, ?_⟩; have n0_ := Aside0.mk (below_step (by repeat (first | (with_reducible first | exact HB.out | apply below_alloc | apply pw_below_drewN | apply below_drew1) | exact HB.out)) hb); clear HB; have HB := n0_; clear n0_; (try clear hb); (try clear hb2); (try clear hk); (try clear hi)))
    go_ret
    exact ⟨by first | rfl | (simp [errW_none, errW_some] <;> rfl) | (simp [*, errW_none, errW_some] <;> rfl), by repeat (first | (with_reducible first | exact HB.out | apply below_alloc | apply pw_below_drewN | apply below_drew1) | exact HB.out)⟩
  · rw [if_neg c3] at H
    have c3b0 : decide (20 < (a0.size : Int)) = false := decide_eq_false c3
    have c3b1 : decide (20 < a0.size) = false := decide_eq_false (by omega)
    clear c3
    obtain ⟨y115, hy115⟩ : ∃ y_ : List ByteArray, y_ = (([a0, (⟨#[0]⟩ : ByteArray), (⟨#[255]⟩ : ByteArray), (⟨#[1]⟩ : ByteArray)] : List ByteArray)) := ⟨_, rfl⟩
    replace H : (certpathlaw03_PrimBoolean.l0 k a1 y115 (y115.length : Int) 0) = some r := by first | (rw [hy115]; with_reducible exact H) | (have H2_ := (Option.bind_some _ _).symm.trans H; rw [hy115]; with_reducible exact H2_) | (have H2_ := (Option.bind_some _ _).symm.trans H; with_reducible exact H2_) | with_reducible exact H | (rw [hy115]; exact H) | exact H
    have Ny115 := Aside0.mk hy115
    clear hy115
    have H' := Aside0.mk H
    clear H
    go_enter Try.func5, Try.ntmps5
    go_wp2_with (first | ((with_reducible refine gate_dst (N := 16) rfl ?_); refine Kd.R_lit Kd.string _ 9 ?hg (N := 16) ?hd (xs := ([a0, (⟨#[0]⟩ : ByteArray), (⟨#[255]⟩ : ByteArray), (⟨#[1]⟩ : ByteArray)] : List ByteArray)) (inner := [.string a0, .string (⟨#[0]⟩ : ByteArray), .string (⟨#[255]⟩ : ByteArray), .string (⟨#[1]⟩ : ByteArray)]) (ok := fun _ => True) (okp := fun _ => True) ?hr ?hp (fun _ hk => hk) trivial (Below.refl _ _) (Nat.le_refl _) (by simp) ?_; (case hd => rfl); (case hg => rfl); (case hr => first | (go_simp; done) | (go_simp; rfl)); (case hp => exact (Reps.one (show Kd.M Kd.string _ _ _ a0 [.string a0] from rfl) (Reps.one (show Kd.M Kd.string _ _ _ (⟨#[0]⟩ : ByteArray) [.string (⟨#[0]⟩ : ByteArray)] from rfl) (Reps.one (show Kd.M Kd.string _ _ _ (⟨#[255]⟩ : ByteArray) [.string (⟨#[255]⟩ : ByteArray)] from rfl) (Reps.one (show Kd.M Kd.string _ _ _ (⟨#[1]⟩ : ByteArray) [.string (⟨#[1]⟩ : ByteArray)] from rfl) (Reps.none _ _)))))); intro v116 w6 ho7 hb hg_ hnew_; clear hg_ hnew_; (first | rw [← Ny115.out] at ho7 | (simp only [Int.reduceToNat] at ho7; rw [← Ny115.out] at ho7)); have n0_ := Aside0.mk (Kd.R_lower ho7 (below_size (by repeat (first | (with_reducible first | exact HB.out | apply below_alloc | apply pw_below_drewN | apply below_drew1) | exact HB.out)))); have n1_ := Aside0.mk (below_step (by repeat (first | (with_reducible first | exact HB.out | apply below_alloc | apply pw_below_drewN | apply below_drew1) | exact HB.out)) hb); clear HB; have HO117 := n0_; have HB := n1_; clear n0_ n1_; clear hb ho7; obtain ⟨Ao8, co8, eo8⟩ := Kd.R_slice HO117.out; subst eo8))
    go_loopg [18] k (fun kq v18 w' => ∃ (x18_1 : Int), v18 = .int .i64 x18_1 ∧ Aside0 (certpathlaw03_PrimBoolean.l0 kq a1 y115 (y115.length : Int) x18_1 = some r) ∧ Aside0 (kq ≤ k) ∧ Aside0 (Kd.R Kd.string 9 w' w.heap.size (fun _ => True) (.slice Ao8 y115.length co8) y115) ∧ Aside0 (Below w.heap.size w w'))
    case atStart => exact ⟨(0), (by first | rfl | (simp; done) | (simp [*]; done)), H', ⟨Nat.le_refl _⟩, ⟨by (with_reducible repeat (first | apply Kd.R_alloc | apply Kd.R_drewN | apply Kd.R_drew)); exact HO117.out⟩, ⟨by repeat (first | (with_reducible first | exact HB.out | apply below_alloc | apply pw_below_drewN | apply below_drew1) | exact HB.out)⟩⟩
    case round =>
      clear H'
      try clear p2
      try clear c3
      try clear c3b0
      try clear c3b1
      try clear c5
      obtain ⟨x18_1, rfl, HA, HK1, HO_16, HB⟩ := hrel
      cases gk with
      | zero => exact absurd HA.out (by simp [certpathlaw03_PrimBoolean.l0])
      | succ k1 =>
        have H := HA.out
        clear HA
        simp only [certpathlaw03_PrimBoolean.l0] at H
        by_cases c9 : x18_1 < (y115.length : Int)
        · rw [if_pos c9] at H
          have c9b0 : decide (x18_1 < (y115.length : Int)) = true := decide_eq_true c9
          clear c9
          by_cases c10 : 0 ≤ x18_1
          · rw [if_pos c10] at H
            have c10b0 : decide (0 ≤ x18_1) = true := decide_eq_true c10
            clear c10
            by_cases c11 : x18_1 < (y115.length : Int)
            · rw [if_pos c11] at H
              have c11b0 : decide (x18_1 < (y115.length : Int)) = true := decide_eq_true c11
              clear c11
              replace H := Option.bind_eq_some_iff.mp H
              obtain ⟨⟨t122, t123⟩, A120, H⟩ := H
              replace H : ((certpathref01_Boolean.f (rdOf ByteArray.empty y115 x18_1)).bind fun bt124 => (if (t122 != bt124.1) = true then (some false) else (if t123 = bt124.2 then (certpathlaw03_PrimBoolean.l0 k1 a1 y115 (y115.length : Int) (wrap64 (x18_1 + 1))) else (some false)))) = some r := H
              have A12 := Aside0.mk A120
              clear A120
              replace H := Option.bind_eq_some_iff.mp H
              obtain ⟨⟨t124, t125⟩, A130, H⟩ := H
              replace H : (if (t122 != t124) = true then (some false) else (if t123 = t125 then (certpathlaw03_PrimBoolean.l0 k1 a1 y115 (y115.length : Int) (wrap64 (x18_1 + 1))) else (some false))) = some r := H
              have A13 := Aside0.mk A130
              clear A130
              by_cases c14 : (t122 != t124) = true
              · rw [if_pos c14] at H
                have c14b0 : (t122 != t124) = true := c14
                (try (have c14b1 : decide (t122 = t124) = false := by simpa using c14))
                (try (have c14b2 : (t122 == t124) = false := by simpa using c14))
                (try (have c14b3 : ¬ (t122 = t124) := by simpa using c14))
                clear c14
                obtain rfl := Option.some.inj H
                have p121 : 0 ≤ (x18_1 : Int) := of_decide_eq_true (by first | (with_reducible assumption) | assumption)
                have q121 : x18_1 < (y115.length : Int) := of_decide_eq_true (by first | (with_reducible assumption) | assumption)
                obtain ⟨ad121, e121, hx121_0⟩ := Kd.at_string (Kd.R_reads' HO_16.out).2.2 x18_1 p121 q121
                cases e121
                replace p121 := eq_true p121
                replace q121 := eq_true q121
                go_wp2_with (first | ((with_reducible refine gate_callee (f := 14) rfl ?_); refine goesL_ (some 24) rfl rfl Try.func14 (by kernel_rfl) rfl #[.string (rdOf ByteArray.empty y115 x18_1)] rfl (by (try simp only [List.map_toArray, List.map_cons, List.map_nil]); first | done | rfl | (simp only [List.length_drop, List.length_take]; rfl)) ?_; (with_reducible refine (prim_Boolean.calls (rdOf ByteArray.empty y115 x18_1) t122 t123 _ A12.out).mono ?_); rintro e w' ⟨rfl, ⟨nd, rfl⟩⟩; refine ⟨_, rfl, ?_⟩) | ((with_reducible refine gate_callee (f := 15) rfl ?_); refine goesL_ (some 29) rfl rfl Try.func15 (by kernel_rfl) rfl #[.string (rdOf ByteArray.empty y115 x18_1)] rfl (by (try simp only [List.map_toArray, List.map_cons, List.map_nil]); first | done | rfl | (simp only [List.length_drop, List.length_take]; rfl)) ?_; (with_reducible refine (certpathref01_Boolean.calls (rdOf ByteArray.empty y115 x18_1) t124 t125 _ A13.out).mono ?_); rintro e w' ⟨rfl, ⟨nd, rfl⟩⟩; refine ⟨_, rfl, ?_⟩))
                go_ret
                exact ⟨by first | rfl | (simp [errW_none, errW_some] <;> rfl) | (simp [*, errW_none, errW_some] <;> rfl), by repeat (first | (with_reducible first | exact HB.out | apply below_alloc | apply pw_below_drewN | apply below_drew1) | exact HB.out)⟩
              · rw [if_neg c14] at H
                have c14b0 : (t122 != t124) = false := by simpa using c14
                (try (have c14b1 : decide (t122 = t124) = true := by simpa using c14))
                (try (have c14b2 : (t122 == t124) = true := by simpa using c14))
                clear c14
                by_cases c15 : t123 = t125
                · rw [if_pos c15] at H
                  have c15b0 : (t123 == t125) = true := beq_iff_eq.mpr c15
                  have c15b1 : (t123 != t125) = false := bne_eq_false_iff_eq.mpr c15
                  clear c15
                  have H' := Aside0.mk H
                  clear H
                  have p121 : 0 ≤ (x18_1 : Int) := of_decide_eq_true (by first | (with_reducible assumption) | assumption)
                  have q121 : x18_1 < (y115.length : Int) := of_decide_eq_true (by first | (with_reducible assumption) | assumption)
                  obtain ⟨ad121, e121, hx121_0⟩ := Kd.at_string (Kd.R_reads' HO_16.out).2.2 x18_1 p121 q121
                  cases e121
                  replace p121 := eq_true p121
                  replace q121 := eq_true q121
                  go_wp2_with (first | ((with_reducible refine gate_callee (f := 14) rfl ?_); refine goesL_ (some 24) rfl rfl Try.func14 (by kernel_rfl) rfl #[.string (rdOf ByteArray.empty y115 x18_1)] rfl (by (try simp only [List.map_toArray, List.map_cons, List.map_nil]); first | done | rfl | (simp only [List.length_drop, List.length_take]; rfl)) ?_; (with_reducible refine (prim_Boolean.calls (rdOf ByteArray.empty y115 x18_1) t122 t123 _ A12.out).mono ?_); rintro e w' ⟨rfl, ⟨nd, rfl⟩⟩; refine ⟨_, rfl, ?_⟩) | ((with_reducible refine gate_callee (f := 15) rfl ?_); refine goesL_ (some 29) rfl rfl Try.func15 (by kernel_rfl) rfl #[.string (rdOf ByteArray.empty y115 x18_1)] rfl (by (try simp only [List.map_toArray, List.map_cons, List.map_nil]); first | done | rfl | (simp only [List.length_drop, List.length_take]; rfl)) ?_; (with_reducible refine (certpathref01_Boolean.calls (rdOf ByteArray.empty y115 x18_1) t124 t125 _ A13.out).mono ?_); rintro e w' ⟨rfl, ⟨nd, rfl⟩⟩; refine ⟨_, rfl, ?_⟩))
                  go_roundg k1
                  case measure => have := HK1.out; omega
                  case rel => exact ⟨(wrap64 (x18_1 + 1)), (by first | rfl | (simp; done) | (simp [*]; done)), H', ⟨by have := HK1.out; omega⟩, ⟨by (with_reducible repeat (first | apply Kd.R_alloc | apply Kd.R_drewN | apply Kd.R_drew)); exact HO_16.out⟩, ⟨by repeat (first | (with_reducible first | exact HB.out | apply below_alloc | apply pw_below_drewN | apply below_drew1) | exact HB.out)⟩⟩
                · rw [if_neg c15] at H
                  have c15b0 : (t123 == t125) = false := beq_eq_false_iff_ne.mpr c15
                  have c15b1 : (t123 != t125) = true := bne_iff_ne.mpr c15
                  obtain rfl := Option.some.inj H
                  have p121 : 0 ≤ (x18_1 : Int) := of_decide_eq_true (by first | (with_reducible assumption) | assumption)
                  have q121 : x18_1 < (y115.length : Int) := of_decide_eq_true (by first | (with_reducible assumption) | assumption)
                  obtain ⟨ad121, e121, hx121_0⟩ := Kd.at_string (Kd.R_reads' HO_16.out).2.2 x18_1 p121 q121
                  cases e121
                  replace p121 := eq_true p121
                  replace q121 := eq_true q121
                  go_wp2_with (first | ((with_reducible refine gate_callee (f := 14) rfl ?_); refine goesL_ (some 24) rfl rfl Try.func14 (by kernel_rfl) rfl #[.string (rdOf ByteArray.empty y115 x18_1)] rfl (by (try simp only [List.map_toArray, List.map_cons, List.map_nil]); first | done | rfl | (simp only [List.length_drop, List.length_take]; rfl)) ?_; (with_reducible refine (prim_Boolean.calls (rdOf ByteArray.empty y115 x18_1) t122 t123 _ A12.out).mono ?_); rintro e w' ⟨rfl, ⟨nd, rfl⟩⟩; refine ⟨_, rfl, ?_⟩) | ((with_reducible refine gate_callee (f := 15) rfl ?_); refine goesL_ (some 29) rfl rfl Try.func15 (by kernel_rfl) rfl #[.string (rdOf ByteArray.empty y115 x18_1)] rfl (by (try simp only [List.map_toArray, List.map_cons, List.map_nil]); first | done | rfl | (simp only [List.length_drop, List.length_take]; rfl)) ?_; (with_reducible refine (certpathref01_Boolean.calls (rdOf ByteArray.empty y115 x18_1) t124 t125 _ A13.out).mono ?_); rintro e w' ⟨rfl, ⟨nd, rfl⟩⟩; refine ⟨_, rfl, ?_⟩))
                  go_ret
                  exact ⟨by first | rfl | (simp [errW_none, errW_some] <;> rfl) | (simp [*, errW_none, errW_some] <;> rfl), by repeat (first | (with_reducible first | exact HB.out | apply below_alloc | apply pw_below_drewN | apply below_drew1) | exact HB.out)⟩
            · rw [if_neg c11] at H
              exact absurd H (by simp)
          · rw [if_neg c10] at H
            exact absurd H (by simp)
        · rw [if_neg c9] at H
          have c9b0 : decide (x18_1 < (y115.length : Int)) = false := decide_eq_false c9
          clear c9
          replace H := Option.bind_eq_some_iff.mp H
          obtain ⟨t118, A160, H⟩ := H
          replace H : (if t118 = true then ((prim_PutBoolean.f a1).bind fun t119 => ((certpathref01_PutBoolean.f a1).bind fun t120 => (some (t119.toList == t120.toList)))) else (some false)) = some r := H
          have A16 := Aside0.mk A160
          clear A160
          by_cases c17 : t118 = true
          · subst c17
            have H1 : ((prim_PutBoolean.f a1).bind fun t119 => ((certpathref01_PutBoolean.f a1).bind fun t120 => (some (t119.toList == t120.toList)))) = some r := by rw [if_pos rfl] at H; exact H
            clear H
            have H := H1
            clear H1
            replace H := Option.bind_eq_some_iff.mp H
            obtain ⟨t119, A180, H⟩ := H
            replace H : ((certpathref01_PutBoolean.f a1).bind fun t120 => (some (t119.toList == t120.toList))) = some r := H
            have A18 := Aside0.mk A180
            clear A180
            replace H := Option.bind_eq_some_iff.mp H
            obtain ⟨t120, A190, H⟩ := H
            replace H : (some (t119.toList == t120.toList)) = some r := H
            have A19 := Aside0.mk A190
            clear A190
            obtain rfl := Option.some.inj H
            go_wp2_with (first | ((with_reducible refine gate_callee (f := 9) rfl ?_); refine goesL_ (some 41) rfl rfl Try.func9 (by kernel_rfl) rfl #[] rfl (by (try simp only [List.map_toArray, List.map_cons, List.map_nil]); first | done | rfl | (simp only [List.length_drop, List.length_take]; rfl)) ?_; (with_reducible refine (certpathlaw03_awake.calls k1  true _ A16.out).mono ?_); rintro e w20 ⟨rfl, hb⟩; refine ⟨_, rfl, ?_⟩; have n0_ := Aside0.mk (Kd.R_below (by (with_reducible repeat (first | apply Kd.R_alloc | apply Kd.R_drewN | apply Kd.R_drew)); exact HO_16.out) hb); have n1_ := Aside0.mk (below_step (by repeat (first | (with_reducible first | exact HB.out | apply below_alloc | apply pw_below_drewN | apply below_drew1) | exact HB.out)) hb); clear HO_16; clear HB; have HO_16 := n0_; have HB := n1_; clear n0_ n1_; (try clear hb); (try clear hb2); (try clear hk); (try clear hi)) | (go_at_call 16; (with_reducible refine (prim_PutBoolean.calls a1 t119 _ A18.out).mono ?_); rintro e w' ⟨rfl, ⟨nd, rfl⟩⟩) | (go_at_call 17; (with_reducible refine (certpathref01_PutBoolean.calls a1 t120 _ A19.out).mono ?_); rintro e w' ⟨rfl, ⟨nd, rfl⟩⟩))
            go_ret
            exact ⟨by first | rfl | (simp [errW_none, errW_some] <;> rfl) | (simp [*, errW_none, errW_some] <;> rfl), by repeat (first | (with_reducible first | exact HB.out | apply below_alloc | apply pw_below_drewN | apply below_drew1) | exact HB.out)⟩
          · replace c17 := Bool.eq_false_iff.mpr c17
            subst c17
            have H1 : (some false) = some r := by rw [if_neg (show ¬ (false = true) by decide)] at H; exact H
            clear H
            have H := H1
            clear H1
            obtain rfl := Option.some.inj H
            go_wp2_with (first | ((with_reducible refine gate_callee (f := 9) rfl ?_); refine goesL_ (some 41) rfl rfl Try.func9 (by kernel_rfl) rfl #[] rfl (by (try simp only [List.map_toArray, List.map_cons, List.map_nil]); first | done | rfl | (simp only [List.length_drop, List.length_take]; rfl)) ?_; (with_reducible refine (certpathlaw03_awake.calls k1  false _ A16.out).mono ?_); rintro e w21 ⟨rfl, hb⟩; refine ⟨_, rfl, ?_⟩; have n0_ := Aside0.mk (Kd.R_below (by (with_reducible repeat (first | apply Kd.R_alloc | apply Kd.R_drewN | apply Kd.R_drew)); exact HO_16.out) hb); have n1_ := Aside0.mk (below_step (by repeat (first | (with_reducible first | exact HB.out | apply below_alloc | apply pw_below_drewN | apply below_drew1) | exact HB.out)) hb); clear HO_16; clear HB; have HO_16 := n0_; have HB := n1_; clear n0_ n1_; (try clear hb); (try clear hb2); (try clear hk); (try clear hi)))
            go_ret
            exact ⟨by first | rfl | (simp [errW_none, errW_some] <;> rfl) | (simp [*, errW_none, errW_some] <;> rfl), by repeat (first | (with_reducible first | exact HB.out | apply below_alloc | apply pw_below_drewN | apply below_drew1) | exact HB.out)⟩

/-- THE ONE PURE STATEMENT of certpathlaw03_PrimBoolean: yours. -/
def certpathlaw03_PrimBoolean.Pure : Prop := ∀ (a0 : ByteArray) (a1 : Bool), a0.size ≤ 140737488351232 → ∃ k, certpathlaw03_PrimBoolean.f k a0 a1 = some true
theorem certpathlaw03_PrimBoolean.walk (P : certpathlaw03_PrimBoolean.Pure) (a0 : ByteArray) (a1 : Bool) (w : World) (w0 : a0.size ≤ 140737488351232) :
    Calls Try.prog 5 #[.string a0, .bool a1] w fun e w' => e = .returned (.bool true) ∧ Below w.heap.size w w' := by
  obtain ⟨k, h⟩ := P a0 a1 w0
  refine (certpathlaw03_PrimBoolean.calls k a0 a1 true w h).mono ?_
  rintro e w' ⟨rfl, hd⟩
  exact ⟨rfl, hd⟩

end Go.Proofs.Ytpiakeejfggocaa.PPrimBoolean
