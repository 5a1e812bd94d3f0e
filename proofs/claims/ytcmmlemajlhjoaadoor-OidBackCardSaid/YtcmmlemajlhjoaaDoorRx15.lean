-- Written by a program of this session (wip/prn.py) out of the translation, for the seat YtcmmlemajlhjoaaDoor. Not trusted: Lean checks it.
import Derived.Test.YtcmmlemajlhjoaaDoorRx0
import Derived.Test.YtcmmlemajlhjoaaDoorRx5
import Derived.Test.YtcmmlemajlhjoaaDoorRx6
import Derived.Test.YtcmmlemajlhjoaaDoorRx8
import Derived.Test.YtcmmlemajlhjoaaDoorRx14
namespace Go.Proofs.YtcmmlemajlhjoaaDoor.Q
open Go.RowKit Go.Proofs.YtcmmlemajlhjoaaDoorW.PrintWords Go.Proofs.YtcmmlemajlhjoaaDoorW.PrintLast Go.Proofs.YtcmmlemajlhjoaaDoorW.PrintMore
attribute [local go_sem] max2_int min2_int max_two min_two max_three min_three max_four min_four   -- for this text's walks alone
set_option linter.unusedVariables false
set_option linter.unusedSimpArgs false

/-! ### certpathlaw04_OidBack: function 7 -/
def certpathlaw04_OidBack.j0 : Nat → ByteArray → Bool → Option (Bool)
  | 0, _, _ => none
  | k + 1, x1, x40 => if x40 = true then (some false) else ((oid_Decode.f k x1).bind fun bt217 => (if bt217.2 = 0 then ((oid_Encode.f k bt217.1).bind fun bt219 => (if bt219.2 = 0 then (if bt219.1.toList = x1.toList then ((oid_Valid.f k bt217.1).bind fun t221 => (if t221 = true then ((certpathlaw04_awake.f k).bind fun t222 => (some t222)) else (some false))) else (some false)) else (some false))) else ((certpathlaw04_awake.f k).bind fun t223 => (some t223))))
def certpathlaw04_OidBack.f (k : Nat) (l0 : List Int) (a1 : ByteArray) : Option (Bool) := if (a1.size : Int) > 100 then ((certpathlaw04_awake.f k).bind fun t211 => (some t211)) else ((certpathlaw04_id.f k l0).bind fun t212 => ((oid_Encode.f k t212).bind fun bt213 => ((oid_Decode.f k bt213.1).bind fun bt215 => (if bt213.2 = 0 then (if bt215.2 = 0 then (certpathlaw04_OidBack.j0 k a1 (bt215.1.toList != t212.toList)) else (certpathlaw04_OidBack.j0 k a1 true)) else (certpathlaw04_OidBack.j0 k a1 true)))))
theorem certpathlaw04_OidBack.mono_l : ∀ k, (∀ y0 y1, LeO (certpathlaw04_OidBack.j0 k y0 y1) (certpathlaw04_OidBack.j0 (k + 1) y0 y1))
  | 0 => fun _ _ r h => by simp [certpathlaw04_OidBack.j0] at h
  | k + 1 => by
    have ih0 := certpathlaw04_OidBack.mono_l k
    · intro y0 y1
      unfold certpathlaw04_OidBack.j0
      repeat' first
      | (with_reducible exact ih0 _ _)
      | (with_reducible exact certpathlaw04_awake.mono _)
      | (with_reducible exact certpathlaw04_id.mono _ _)
      | (with_reducible exact oid_Decode.mono _ _)
      | (with_reducible exact oid_Encode.mono _ _)
      | (with_reducible exact oid_Valid.mono _ _)
      | (with_reducible exact LeO.refl _)
      | (with_reducible exact LeO.none _)
      | (with_reducible refine LeO.ite ?_ ?_)
      | (with_reducible refine LeO.bind ?_ (fun _ => ?_))
      | exact ih0 _ _
      | exact certpathlaw04_awake.mono _
      | exact certpathlaw04_id.mono _ _
      | exact oid_Decode.mono _ _
      | exact oid_Encode.mono _ _
      | exact oid_Valid.mono _ _
      | exact LeO.none _
      | refine LeO.ite ?_ ?_
      | refine LeO.bind ?_ (fun _ => ?_)
theorem certpathlaw04_OidBack.mono : ∀ a0 a1 k, LeO (certpathlaw04_OidBack.f k a0 a1) (certpathlaw04_OidBack.f (k + 1) a0 a1) := by
  intro a0 a1 k
  have ih0 := certpathlaw04_OidBack.mono_l k
  unfold certpathlaw04_OidBack.f
  repeat' first
      | (with_reducible exact ih0 _ _)
      | (with_reducible exact certpathlaw04_awake.mono _)
      | (with_reducible exact certpathlaw04_id.mono _ _)
      | (with_reducible exact oid_Decode.mono _ _)
      | (with_reducible exact oid_Encode.mono _ _)
      | (with_reducible exact oid_Valid.mono _ _)
      | (with_reducible exact LeO.refl _)
      | (with_reducible exact LeO.none _)
      | (with_reducible refine LeO.ite ?_ ?_)
      | (with_reducible refine LeO.bind ?_ (fun _ => ?_))
      | exact ih0 _ _
      | exact certpathlaw04_awake.mono _
      | exact certpathlaw04_id.mono _ _
      | exact oid_Decode.mono _ _
      | exact oid_Encode.mono _ _
      | exact oid_Valid.mono _ _
      | exact LeO.none _
      | refine LeO.ite ?_ ?_
      | refine LeO.bind ?_ (fun _ => ?_)
set_option maxHeartbeats 8000000 in
set_option maxRecDepth 100000 in
theorem certpathlaw04_OidBack.calls (k : Nat) (A0 : Option Addr) (c0 : Nat) (l0 : List Int) (a1 : ByteArray) (r : Bool) (w : World) (hG_ : Ext.G w) (hr0 : Kd.C (Kd.int .u32) w A0 l0.length l0) (hc0 : l0.length ≤ c0) (h : certpathlaw04_OidBack.f k l0 a1 = some r) :
    Calls Tryd.prog 7 #[.slice A0 l0.length c0, .string a1] w fun e w' => e = .returned (.bool r) ∧ Below w.heap.size w w' := by
  have HR0 := Aside0.mk hr0
  have HC0 := Aside0.mk hc0
  clear hr0 hc0
  have HB := Aside0.mk (Below.refl w.heap.size w)
  have H : (if (a1.size : Int) > 100 then ((certpathlaw04_awake.f k).bind fun t211 => (some t211)) else ((certpathlaw04_id.f k l0).bind fun t212 => ((oid_Encode.f k t212).bind fun bt213 => ((oid_Decode.f k bt213.1).bind fun bt215 => (if bt213.2 = 0 then (if bt215.2 = 0 then (certpathlaw04_OidBack.j0 k a1 (bt215.1.toList != t212.toList)) else (certpathlaw04_OidBack.j0 k a1 true)) else (certpathlaw04_OidBack.j0 k a1 true)))))) = some r := h
  clear h
  by_cases c3 : (a1.size : Int) > 100
  · rw [if_pos c3] at H
    have c3b0 : decide (100 < (a1.size : Int)) = true := decide_eq_true c3
    have c3b1 : decide (100 < a1.size) = true := decide_eq_true (by omega)
    clear c3
    replace H := Option.bind_eq_some_iff.mp H
    obtain ⟨t211, A40, H⟩ := H
    replace H : (some t211) = some r := H
    have A4 := Aside0.mk A40
    clear A40
    obtain rfl := Option.some.inj H
    go_enter Tryd.func7, Tryd.ntmps7
    go_wp2_with (first | ((with_reducible refine gate_callee (f := 8) rfl ?_); refine goesL_ (some 17) rfl rfl Tryd.func8 (by kernel_rfl) rfl #[] rfl (by (try simp only [List.map_toArray, List.map_cons, List.map_nil]); first | done | rfl | (simp only [List.length_drop, List.length_take]; rfl)) ?_; (with_reducible refine (certpathlaw04_awake.calls k  t211 _ ?side1 A4.out).mono ?_); (case side1 => refine Ext.G.step ?_ hG_; repeat (first | (with_reducible first | exact HB.out | apply below_alloc | apply pw_below_drewN | apply below_drew1) | exact HB.out)); rintro e w5 ⟨rfl, hb⟩; refine ⟨_, rfl, ?_⟩; have n0_ := Aside0.mk (below_step (by repeat (first | (with_reducible first | exact HB.out | apply below_alloc | apply pw_below_drewN | apply below_drew1) | exact HB.out)) hb); clear HB; have HB := n0_; clear n0_; (try clear hb); (try clear hb2); (try clear hk); (try clear hi)))
    go_ret
    exact ⟨by first | rfl | (simp [errW_none, errW_some] <;> rfl) | (simp [*, errW_none, errW_some] <;> rfl), by repeat (first | (with_reducible first | exact HB.out | apply below_alloc | apply pw_below_drewN | apply below_drew1) | exact HB.out)⟩
  · rw [if_neg c3] at H
    have c3b0 : decide (100 < (a1.size : Int)) = false := decide_eq_false c3
    have c3b1 : decide (100 < a1.size) = false := decide_eq_false (by omega)
    clear c3
    replace H := Option.bind_eq_some_iff.mp H
    obtain ⟨t212, A60, H⟩ := H
    replace H : ((oid_Encode.f k t212).bind fun bt213 => ((oid_Decode.f k bt213.1).bind fun bt215 => (if bt213.2 = 0 then (if bt215.2 = 0 then (certpathlaw04_OidBack.j0 k a1 (bt215.1.toList != t212.toList)) else (certpathlaw04_OidBack.j0 k a1 true)) else (certpathlaw04_OidBack.j0 k a1 true)))) = some r := H
    have A6 := Aside0.mk A60
    clear A60
    replace H := Option.bind_eq_some_iff.mp H
    obtain ⟨⟨t213, t214⟩, A70, H⟩ := H
    replace H : ((oid_Decode.f k t213).bind fun bt215 => (if t214 = 0 then (if bt215.2 = 0 then (certpathlaw04_OidBack.j0 k a1 (bt215.1.toList != t212.toList)) else (certpathlaw04_OidBack.j0 k a1 true)) else (certpathlaw04_OidBack.j0 k a1 true))) = some r := H
    have A7 := Aside0.mk A70
    clear A70
    replace H := Option.bind_eq_some_iff.mp H
    obtain ⟨⟨t215, t216⟩, A80, H⟩ := H
    replace H : (if t214 = 0 then (if t216 = 0 then (certpathlaw04_OidBack.j0 k a1 (t215.toList != t212.toList)) else (certpathlaw04_OidBack.j0 k a1 true)) else (certpathlaw04_OidBack.j0 k a1 true)) = some r := H
    have A8 := Aside0.mk A80
    clear A80
    have HC9 := Aside0.mk H
    clear H
    go_enter Tryd.func7, Tryd.ntmps7
    go_upto_region 6 with (first | ((with_reducible refine gate_callee (f := 14) rfl ?_); refine goesL_ (some 19) rfl rfl Tryd.func14 (by kernel_rfl) rfl #[.slice A0 l0.length c0] rfl (by (try simp only [List.map_toArray, List.map_cons, List.map_nil]); first | done | rfl | (simp only [List.length_drop, List.length_take]; rfl)) ?_; (with_reducible refine (certpathlaw04_id.calls k _ _ l0 t212 _ ?side1 ?side2 ?side3 A6.out).mono ?_); (case side1 => refine Ext.G.step ?_ hG_; repeat (first | (with_reducible first | exact HB.out | apply below_alloc | apply pw_below_drewN | apply below_drew1) | exact HB.out)); (case side2 => repeat (first | exact HR0.out | (with_reducible refine Kd.C_alloc ?_ _) | (with_reducible refine Kd.C_drewN ?_ _) | (with_reducible refine Kd.C_drew ?_))); (case side3 => exact HC0.out); rintro e w10 ⟨rfl, hb⟩; refine ⟨_, rfl, ?_⟩; have n0_ := Aside0.mk (below_step (by repeat (first | (with_reducible first | exact HB.out | apply below_alloc | apply pw_below_drewN | apply below_drew1) | exact HB.out)) hb); clear HB; have HB := n0_; clear n0_; (try clear hb); (try clear hb2); (try clear hk); (try clear hi)) | ((with_reducible refine gate_callee (f := 10) rfl ?_); refine goesL_ (some 22) rfl rfl Tryd.func10 (by kernel_rfl) rfl #[.string t212] rfl (by (try simp only [List.map_toArray, List.map_cons, List.map_nil]); first | done | rfl | (simp only [List.length_drop, List.length_take]; rfl)) ?_; (with_reducible refine (oid_Encode.calls k t212 t213 t214 _ ?side1 A7.out).mono ?_); (case side1 => refine Ext.G.step ?_ hG_; repeat (first | (with_reducible first | exact HB.out | apply below_alloc | apply pw_below_drewN | apply below_drew1) | exact HB.out)); rintro e w11 ⟨rfl, hb⟩; refine ⟨_, rfl, ?_⟩; have n0_ := Aside0.mk (below_step (by repeat (first | (with_reducible first | exact HB.out | apply below_alloc | apply pw_below_drewN | apply below_drew1) | exact HB.out)) hb); clear HB; have HB := n0_; clear n0_; (try clear hb); (try clear hb2); (try clear hk); (try clear hi)) | ((with_reducible refine gate_callee (f := 19) rfl ?_); refine goesL_ (some 27) rfl rfl Tryd.func19 (by kernel_rfl) rfl #[.string t213] rfl (by (try simp only [List.map_toArray, List.map_cons, List.map_nil]); first | done | rfl | (simp only [List.length_drop, List.length_take]; rfl)) ?_; (with_reducible refine (oid_Decode.calls k t213 t215 t216 _ ?side1 A8.out).mono ?_); (case side1 => refine Ext.G.step ?_ hG_; repeat (first | (with_reducible first | exact HB.out | apply below_alloc | apply pw_below_drewN | apply below_drew1) | exact HB.out)); rintro e w12 ⟨rfl, hb⟩; refine ⟨_, rfl, ?_⟩; have n0_ := Aside0.mk (below_step (by repeat (first | (with_reducible first | exact HB.out | apply below_alloc | apply pw_below_drewN | apply below_drew1) | exact HB.out)) hb); clear HB; have HB := n0_; clear n0_; (try clear hb); (try clear hb2); (try clear hk); (try clear hi)))
    (try simp only [Act.put, List.setIfInBounds_toArray, List.set_cons_zero, List.set_cons_succ])
    go_cut [40] (fun v40 wc => ∃ (kq : Nat) (x40_8 : Bool), v40 = .bool x40_8 ∧ Aside0 (certpathlaw04_OidBack.j0 kq a1 x40_8 = some r) ∧ Aside0 (kq ≤ k) ∧ Aside0 (Below w.heap.size w wc))
    case first =>
      have H := HC9.out
      clear HC9
      by_cases c13 : t214 = 0
      · rw [if_pos c13] at H
        have c13b0 : (t214 == 0) = true := beq_iff_eq.mpr c13
        have c13b1 : (t214 != 0) = false := bne_eq_false_iff_eq.mpr c13
        clear c13
        (first | rw [c13b0] | (simp only [i64_w, i32_w]; rw [c13b0]) | skip)
        by_cases c14 : t216 = 0
        · rw [if_pos c14] at H
          have c14b0 : (t216 == 0) = true := beq_iff_eq.mpr c14
          have c14b1 : (t216 != 0) = false := bne_eq_false_iff_eq.mpr c14
          clear c14
          have H' := Aside0.mk H
          clear H
          go_wp2
          go_meet
          case rel => exact ⟨_, ((t215.toList != t212.toList)), (by first | rfl | (simp; done) | (simp [*]; done)), H', ⟨by first | omega | exact Nat.le_refl _⟩, ⟨by repeat (first | (with_reducible first | exact HB.out | apply below_alloc | apply pw_below_drewN | apply below_drew1) | exact HB.out)⟩⟩
        · rw [if_neg c14] at H
          have c14b0 : (t216 == 0) = false := beq_eq_false_iff_ne.mpr c14
          have c14b1 : (t216 != 0) = true := bne_iff_ne.mpr c14
          have H' := Aside0.mk H
          clear H
          go_wp2
          go_meet
          case rel => exact ⟨_, (true), (by first | rfl | (simp; done) | (simp [*]; done)), H', ⟨by first | omega | exact Nat.le_refl _⟩, ⟨by repeat (first | (with_reducible first | exact HB.out | apply below_alloc | apply pw_below_drewN | apply below_drew1) | exact HB.out)⟩⟩
      · rw [if_neg c13] at H
        have c13b0 : (t214 == 0) = false := beq_eq_false_iff_ne.mpr c13
        have c13b1 : (t214 != 0) = true := bne_iff_ne.mpr c13
        (first | rw [c13b0] | (simp only [i64_w, i32_w]; rw [c13b0]) | skip)
        have H' := Aside0.mk H
        clear H
        go_wp2
        go_meet
        case rel => exact ⟨_, (true), (by first | rfl | (simp; done) | (simp [*]; done)), H', ⟨by first | omega | exact Nat.le_refl _⟩, ⟨by repeat (first | (with_reducible first | exact HB.out | apply below_alloc | apply pw_below_drewN | apply below_drew1) | exact HB.out)⟩⟩
    case rest =>
      clear HC9
      try clear c1
      try clear p2
      try clear c3
      try clear c3b0
      try clear c3b1
      try clear c7
      try clear c8
      try clear c10
      try clear c13
      try clear c13b0
      try clear c13b1
      try clear c14
      try clear c14b0
      try clear c14b1
      obtain ⟨kq, x40_8, rfl, HA, HJ8, HB⟩ := hcut
      cases kq with
      | zero => exact absurd HA.out (by simp [certpathlaw04_OidBack.j0])
      | succ kj8 =>
        have H := HA.out
        clear HA
        simp only [certpathlaw04_OidBack.j0] at H
        by_cases c15 : x40_8 = true
        · subst c15
          have H1 : (some false) = some r := by rw [if_pos rfl] at H; exact H
          clear H
          have H := H1
          clear H1
          obtain rfl := Option.some.inj H
          go_wp2
          go_ret
          exact ⟨by first | rfl | (simp [errW_none, errW_some] <;> rfl) | (simp [*, errW_none, errW_some] <;> rfl), by repeat (first | (with_reducible first | exact HB.out | apply below_alloc | apply pw_below_drewN | apply below_drew1) | exact HB.out)⟩
        · replace c15 := Bool.eq_false_iff.mpr c15
          subst c15
          have H1 : ((oid_Decode.f kj8 a1).bind fun bt217 => (if bt217.2 = 0 then ((oid_Encode.f kj8 bt217.1).bind fun bt219 => (if bt219.2 = 0 then (if bt219.1.toList = a1.toList then ((oid_Valid.f kj8 bt217.1).bind fun t221 => (if t221 = true then ((certpathlaw04_awake.f kj8).bind fun t222 => (some t222)) else (some false))) else (some false)) else (some false))) else ((certpathlaw04_awake.f kj8).bind fun t223 => (some t223)))) = some r := by rw [if_neg (show ¬ (false = true) by decide)] at H; exact H
          clear H
          have H := H1
          clear H1
          replace H := Option.bind_eq_some_iff.mp H
          obtain ⟨⟨t217, t218⟩, A160, H⟩ := H
          replace H : (if t218 = 0 then ((oid_Encode.f kj8 t217).bind fun bt219 => (if bt219.2 = 0 then (if bt219.1.toList = a1.toList then ((oid_Valid.f kj8 t217).bind fun t221 => (if t221 = true then ((certpathlaw04_awake.f kj8).bind fun t222 => (some t222)) else (some false))) else (some false)) else (some false))) else ((certpathlaw04_awake.f kj8).bind fun t223 => (some t223))) = some r := H
          have A16 := Aside0.mk A160
          clear A160
          by_cases c17 : t218 = 0
          · rw [if_pos c17] at H
            have c17b0 : (t218 == 0) = true := beq_iff_eq.mpr c17
            have c17b1 : (t218 != 0) = false := bne_eq_false_iff_eq.mpr c17
            clear c17
            replace H := Option.bind_eq_some_iff.mp H
            obtain ⟨⟨t219, t220⟩, A180, H⟩ := H
            replace H : (if t220 = 0 then (if t219.toList = a1.toList then ((oid_Valid.f kj8 t217).bind fun t221 => (if t221 = true then ((certpathlaw04_awake.f kj8).bind fun t222 => (some t222)) else (some false))) else (some false)) else (some false)) = some r := H
            have A18 := Aside0.mk A180
            clear A180
            by_cases c19 : t220 = 0
            · rw [if_pos c19] at H
              have c19b0 : (t220 == 0) = true := beq_iff_eq.mpr c19
              have c19b1 : (t220 != 0) = false := bne_eq_false_iff_eq.mpr c19
              clear c19
              by_cases c20 : t219.toList = a1.toList
              · rw [if_pos c20] at H
                have c20b0 : (t219.toList == a1.toList) = true := beq_iff_eq.mpr c20
                have c20b1 : (t219.toList != a1.toList) = false := bne_eq_false_iff_eq.mpr c20
                clear c20
                replace H := Option.bind_eq_some_iff.mp H
                obtain ⟨t221, A210, H⟩ := H
                replace H : (if t221 = true then ((certpathlaw04_awake.f kj8).bind fun t222 => (some t222)) else (some false)) = some r := H
                have A21 := Aside0.mk A210
                clear A210
                by_cases c22 : t221 = true
                · subst c22
                  have H1 : ((certpathlaw04_awake.f kj8).bind fun t222 => (some t222)) = some r := by rw [if_pos rfl] at H; exact H
                  clear H
                  have H := H1
                  clear H1
                  replace H := Option.bind_eq_some_iff.mp H
                  obtain ⟨t222, A230, H⟩ := H
                  replace H : (some t222) = some r := H
                  have A23 := Aside0.mk A230
                  clear A230
                  obtain rfl := Option.some.inj H
                  go_wp2_with (first | ((with_reducible refine gate_callee (f := 19) rfl ?_); refine goesL_ (some 43) rfl rfl Tryd.func19 (by kernel_rfl) rfl #[.string a1] rfl (by (try simp only [List.map_toArray, List.map_cons, List.map_nil]); first | done | rfl | (simp only [List.length_drop, List.length_take]; rfl)) ?_; (with_reducible refine (oid_Decode.calls kj8 a1 t217 t218 _ ?side1 A16.out).mono ?_); (case side1 => refine Ext.G.step ?_ hG_; repeat (first | (with_reducible first | exact HB.out | apply below_alloc | apply pw_below_drewN | apply below_drew1) | exact HB.out)); rintro e w24 ⟨rfl, hb⟩; refine ⟨_, rfl, ?_⟩; have n0_ := Aside0.mk (below_step (by repeat (first | (with_reducible first | exact HB.out | apply below_alloc | apply pw_below_drewN | apply below_drew1) | exact HB.out)) hb); clear HB; have HB := n0_; clear n0_; (try clear hb); (try clear hb2); (try clear hk); (try clear hi)) | ((with_reducible refine gate_callee (f := 10) rfl ?_); refine goesL_ (some 50) rfl rfl Tryd.func10 (by kernel_rfl) rfl #[.string t217] rfl (by (try simp only [List.map_toArray, List.map_cons, List.map_nil]); first | done | rfl | (simp only [List.length_drop, List.length_take]; rfl)) ?_; (with_reducible refine (oid_Encode.calls kj8 t217 t219 t220 _ ?side1 A18.out).mono ?_); (case side1 => refine Ext.G.step ?_ hG_; repeat (first | (with_reducible first | exact HB.out | apply below_alloc | apply pw_below_drewN | apply below_drew1) | exact HB.out)); rintro e w25 ⟨rfl, hb⟩; refine ⟨_, rfl, ?_⟩; have n0_ := Aside0.mk (below_step (by repeat (first | (with_reducible first | exact HB.out | apply below_alloc | apply pw_below_drewN | apply below_drew1) | exact HB.out)) hb); clear HB; have HB := n0_; clear n0_; (try clear hb); (try clear hb2); (try clear hk); (try clear hi)) | (go_at_call 12; (with_reducible refine (oid_Valid.calls kj8 t217 true _ ?side1 A21.out).mono ?_); (case side1 => refine Ext.G.step ?_ hG_; repeat (first | (with_reducible first | exact HB.out | apply below_alloc | apply pw_below_drewN | apply below_drew1) | exact HB.out)); rintro e w26 ⟨rfl, hb⟩; have n0_ := Aside0.mk (below_step (by repeat (first | (with_reducible first | exact HB.out | apply below_alloc | apply pw_below_drewN | apply below_drew1) | exact HB.out)) hb); clear HB; have HB := n0_; clear n0_; (try clear hb); (try clear hb2); (try clear hk); (try clear hi)) | ((with_reducible refine gate_callee (f := 8) rfl ?_); refine goesL_ (some 65) rfl rfl Tryd.func8 (by kernel_rfl) rfl #[] rfl (by (try simp only [List.map_toArray, List.map_cons, List.map_nil]); first | done | rfl | (simp only [List.length_drop, List.length_take]; rfl)) ?_; (with_reducible refine (certpathlaw04_awake.calls kj8  t222 _ ?side1 A23.out).mono ?_); (case side1 => refine Ext.G.step ?_ hG_; repeat (first | (with_reducible first | exact HB.out | apply below_alloc | apply pw_below_drewN | apply below_drew1) | exact HB.out)); rintro e w27 ⟨rfl, hb⟩; refine ⟨_, rfl, ?_⟩; have n0_ := Aside0.mk (below_step (by repeat (first | (with_reducible first | exact HB.out | apply below_alloc | apply pw_below_drewN | apply below_drew1) | exact HB.out)) hb); clear HB; have HB := n0_; clear n0_; (try clear hb); (try clear hb2); (try clear hk); (try clear hi)))
                  go_ret
                  exact ⟨by first | rfl | (simp [errW_none, errW_some] <;> rfl) | (simp [*, errW_none, errW_some] <;> rfl), by repeat (first | (with_reducible first | exact HB.out | apply below_alloc | apply pw_below_drewN | apply below_drew1) | exact HB.out)⟩
                · replace c22 := Bool.eq_false_iff.mpr c22
                  subst c22
                  have H1 : (some false) = some r := by rw [if_neg (show ¬ (false = true) by decide)] at H; exact H
                  clear H
                  have H := H1
                  clear H1
                  obtain rfl := Option.some.inj H
                  go_wp2_with (first | ((with_reducible refine gate_callee (f := 19) rfl ?_); refine goesL_ (some 43) rfl rfl Tryd.func19 (by kernel_rfl) rfl #[.string a1] rfl (by (try simp only [List.map_toArray, List.map_cons, List.map_nil]); first | done | rfl | (simp only [List.length_drop, List.length_take]; rfl)) ?_; (with_reducible refine (oid_Decode.calls kj8 a1 t217 t218 _ ?side1 A16.out).mono ?_); (case side1 => refine Ext.G.step ?_ hG_; repeat (first | (with_reducible first | exact HB.out | apply below_alloc | apply pw_below_drewN | apply below_drew1) | exact HB.out)); rintro e w28 ⟨rfl, hb⟩; refine ⟨_, rfl, ?_⟩; have n0_ := Aside0.mk (below_step (by repeat (first | (with_reducible first | exact HB.out | apply below_alloc | apply pw_below_drewN | apply below_drew1) | exact HB.out)) hb); clear HB; have HB := n0_; clear n0_; (try clear hb); (try clear hb2); (try clear hk); (try clear hi)) | ((with_reducible refine gate_callee (f := 10) rfl ?_); refine goesL_ (some 50) rfl rfl Tryd.func10 (by kernel_rfl) rfl #[.string t217] rfl (by (try simp only [List.map_toArray, List.map_cons, List.map_nil]); first | done | rfl | (simp only [List.length_drop, List.length_take]; rfl)) ?_; (with_reducible refine (oid_Encode.calls kj8 t217 t219 t220 _ ?side1 A18.out).mono ?_); (case side1 => refine Ext.G.step ?_ hG_; repeat (first | (with_reducible first | exact HB.out | apply below_alloc | apply pw_below_drewN | apply below_drew1) | exact HB.out)); rintro e w29 ⟨rfl, hb⟩; refine ⟨_, rfl, ?_⟩; have n0_ := Aside0.mk (below_step (by repeat (first | (with_reducible first | exact HB.out | apply below_alloc | apply pw_below_drewN | apply below_drew1) | exact HB.out)) hb); clear HB; have HB := n0_; clear n0_; (try clear hb); (try clear hb2); (try clear hk); (try clear hi)) | (go_at_call 12; (with_reducible refine (oid_Valid.calls kj8 t217 false _ ?side1 A21.out).mono ?_); (case side1 => refine Ext.G.step ?_ hG_; repeat (first | (with_reducible first | exact HB.out | apply below_alloc | apply pw_below_drewN | apply below_drew1) | exact HB.out)); rintro e w30 ⟨rfl, hb⟩; have n0_ := Aside0.mk (below_step (by repeat (first | (with_reducible first | exact HB.out | apply below_alloc | apply pw_below_drewN | apply below_drew1) | exact HB.out)) hb); clear HB; have HB := n0_; clear n0_; (try clear hb); (try clear hb2); (try clear hk); (try clear hi)))
                  go_ret
                  exact ⟨by first | rfl | (simp [errW_none, errW_some] <;> rfl) | (simp [*, errW_none, errW_some] <;> rfl), by repeat (first | (with_reducible first | exact HB.out | apply below_alloc | apply pw_below_drewN | apply below_drew1) | exact HB.out)⟩
              · rw [if_neg c20] at H
                have c20b0 : (t219.toList == a1.toList) = false := beq_eq_false_iff_ne.mpr c20
                have c20b1 : (t219.toList != a1.toList) = true := bne_iff_ne.mpr c20
                obtain rfl := Option.some.inj H
                go_wp2_with (first | ((with_reducible refine gate_callee (f := 19) rfl ?_); refine goesL_ (some 43) rfl rfl Tryd.func19 (by kernel_rfl) rfl #[.string a1] rfl (by (try simp only [List.map_toArray, List.map_cons, List.map_nil]); first | done | rfl | (simp only [List.length_drop, List.length_take]; rfl)) ?_; (with_reducible refine (oid_Decode.calls kj8 a1 t217 t218 _ ?side1 A16.out).mono ?_); (case side1 => refine Ext.G.step ?_ hG_; repeat (first | (with_reducible first | exact HB.out | apply below_alloc | apply pw_below_drewN | apply below_drew1) | exact HB.out)); rintro e w31 ⟨rfl, hb⟩; refine ⟨_, rfl, ?_⟩; have n0_ := Aside0.mk (below_step (by repeat (first | (with_reducible first | exact HB.out | apply below_alloc | apply pw_below_drewN | apply below_drew1) | exact HB.out)) hb); clear HB; have HB := n0_; clear n0_; (try clear hb); (try clear hb2); (try clear hk); (try clear hi)) | ((with_reducible refine gate_callee (f := 10) rfl ?_); refine goesL_ (some 50) rfl rfl Tryd.func10 (by kernel_rfl) rfl #[.string t217] rfl (by (try simp only [List.map_toArray, List.map_cons, List.map_nil]); first | done | rfl | (simp only [List.length_drop, List.length_take]; rfl)) ?_; (with_reducible refine (oid_Encode.calls kj8 t217 t219 t220 _ ?side1 A18.out).mono ?_); (case side1 => refine Ext.G.step ?_ hG_; repeat (first | (with_reducible first | exact HB.out | apply below_alloc | apply pw_below_drewN | apply below_drew1) | exact HB.out)); rintro e w32 ⟨rfl, hb⟩; refine ⟨_, rfl, ?_⟩; have n0_ := Aside0.mk (below_step (by repeat (first | (with_reducible first | exact HB.out | apply below_alloc | apply pw_below_drewN | apply below_drew1) | exact HB.out)) hb); clear HB; have HB := n0_; clear n0_; (try clear hb); (try clear hb2); (try clear hk); (try clear hi)))
                go_ret
                exact ⟨by first | rfl | (simp [errW_none, errW_some] <;> rfl) | (simp [*, errW_none, errW_some] <;> rfl), by repeat (first | (with_reducible first | exact HB.out | apply below_alloc | apply pw_below_drewN | apply below_drew1) | exact HB.out)⟩
            · rw [if_neg c19] at H
              have c19b0 : (t220 == 0) = false := beq_eq_false_iff_ne.mpr c19
              have c19b1 : (t220 != 0) = true := bne_iff_ne.mpr c19
              obtain rfl := Option.some.inj H
              go_wp2_with (first | ((with_reducible refine gate_callee (f := 19) rfl ?_); refine goesL_ (some 43) rfl rfl Tryd.func19 (by kernel_rfl) rfl #[.string a1] rfl (by (try simp only [List.map_toArray, List.map_cons, List.map_nil]); first | done | rfl | (simp only [List.length_drop, List.length_take]; rfl)) ?_; (with_reducible refine (oid_Decode.calls kj8 a1 t217 t218 _ ?side1 A16.out).mono ?_); (case side1 => refine Ext.G.step ?_ hG_; repeat (first | (with_reducible first | exact HB.out | apply below_alloc | apply pw_below_drewN | apply below_drew1) | exact HB.out)); rintro e w33 ⟨rfl, hb⟩; refine ⟨_, rfl, ?_⟩; have n0_ := Aside0.mk (below_step (by repeat (first | (with_reducible first | exact HB.out | apply below_alloc | apply pw_below_drewN | apply below_drew1) | exact HB.out)) hb); clear HB; have HB := n0_; clear n0_; (try clear hb); (try clear hb2); (try clear hk); (try clear hi)) | ((with_reducible refine gate_callee (f := 10) rfl ?_); refine goesL_ (some 50) rfl rfl Tryd.func10 (by kernel_rfl) rfl #[.string t217] rfl (by (try simp only [List.map_toArray, List.map_cons, List.map_nil]); first | done | rfl | (simp only [List.length_drop, List.length_take]; rfl)) ?_; (with_reducible refine (oid_Encode.calls kj8 t217 t219 t220 _ ?side1 A18.out).mono ?_); (case side1 => refine Ext.G.step ?_ hG_; repeat (first | (with_reducible first | exact HB.out | apply below_alloc | apply pw_below_drewN | apply below_drew1) | exact HB.out)); rintro e w34 ⟨rfl, hb⟩; refine ⟨_, rfl, ?_⟩; have n0_ := Aside0.mk (below_step (by repeat (first | (with_reducible first | exact HB.out | apply below_alloc | apply pw_below_drewN | apply below_drew1) | exact HB.out)) hb); clear HB; have HB := n0_; clear n0_; (try clear hb); (try clear hb2); (try clear hk); (try clear hi)))
              go_ret
              exact ⟨by first | rfl | (simp [errW_none, errW_some] <;> rfl) | (simp [*, errW_none, errW_some] <;> rfl), by repeat (first | (with_reducible first | exact HB.out | apply below_alloc | apply pw_below_drewN | apply below_drew1) | exact HB.out)⟩
          · rw [if_neg c17] at H
            have c17b0 : (t218 == 0) = false := beq_eq_false_iff_ne.mpr c17
            have c17b1 : (t218 != 0) = true := bne_iff_ne.mpr c17
            replace H := Option.bind_eq_some_iff.mp H
            obtain ⟨t223, A350, H⟩ := H
            replace H : (some t223) = some r := H
            have A35 := Aside0.mk A350
            clear A350
            obtain rfl := Option.some.inj H
            go_wp2_with (first | ((with_reducible refine gate_callee (f := 19) rfl ?_); refine goesL_ (some 43) rfl rfl Tryd.func19 (by kernel_rfl) rfl #[.string a1] rfl (by (try simp only [List.map_toArray, List.map_cons, List.map_nil]); first | done | rfl | (simp only [List.length_drop, List.length_take]; rfl)) ?_; (with_reducible refine (oid_Decode.calls kj8 a1 t217 t218 _ ?side1 A16.out).mono ?_); (case side1 => refine Ext.G.step ?_ hG_; repeat (first | (with_reducible first | exact HB.out | apply below_alloc | apply pw_below_drewN | apply below_drew1) | exact HB.out)); rintro e w36 ⟨rfl, hb⟩; refine ⟨_, rfl, ?_⟩; have n0_ := Aside0.mk (below_step (by repeat (first | (with_reducible first | exact HB.out | apply below_alloc | apply pw_below_drewN | apply below_drew1) | exact HB.out)) hb); clear HB; have HB := n0_; clear n0_; (try clear hb); (try clear hb2); (try clear hk); (try clear hi)) | ((with_reducible refine gate_callee (f := 8) rfl ?_); refine goesL_ (some 65) rfl rfl Tryd.func8 (by kernel_rfl) rfl #[] rfl (by (try simp only [List.map_toArray, List.map_cons, List.map_nil]); first | done | rfl | (simp only [List.length_drop, List.length_take]; rfl)) ?_; (with_reducible refine (certpathlaw04_awake.calls kj8  t223 _ ?side1 A35.out).mono ?_); (case side1 => refine Ext.G.step ?_ hG_; repeat (first | (with_reducible first | exact HB.out | apply below_alloc | apply pw_below_drewN | apply below_drew1) | exact HB.out)); rintro e w37 ⟨rfl, hb⟩; refine ⟨_, rfl, ?_⟩; have n0_ := Aside0.mk (below_step (by repeat (first | (with_reducible first | exact HB.out | apply below_alloc | apply pw_below_drewN | apply below_drew1) | exact HB.out)) hb); clear HB; have HB := n0_; clear n0_; (try clear hb); (try clear hb2); (try clear hk); (try clear hi)))
            go_ret
            exact ⟨by first | rfl | (simp [errW_none, errW_some] <;> rfl) | (simp [*, errW_none, errW_some] <;> rfl), by repeat (first | (with_reducible first | exact HB.out | apply below_alloc | apply pw_below_drewN | apply below_drew1) | exact HB.out)⟩

/-- THE ONE PURE STATEMENT of certpathlaw04_OidBack: yours. -/
def certpathlaw04_OidBack.Pure : Prop := ∀ (l0 : List Int) (a1 : ByteArray), l0.length ≤ maxLen → l0.length * 4 ≤ 140737488351232 → (∀ x ∈ l0, (Lit.int .u32 x).wf = true) → a1.size ≤ 140737488351232 → ∃ k, certpathlaw04_OidBack.f k l0 a1 = some true
theorem certpathlaw04_OidBack.walk (P : certpathlaw04_OidBack.Pure) (a0 : Option Addr) (len0 cap0 : Nat) (z0 : List Int) (a1 : ByteArray) (w : World) (hG_ : Ext.G w) (w0 : (a0 = none ∧ len0 = 0 ∧ cap0 = 0 ∧ z0 = []) ∨ ∃ x, a0 = some x ∧ len0 ≤ cap0 ∧ cap0 ≤ maxLen ∧ z0.length = cap0 ∧ (∀ i, i < z0.length → w.cell? (x.add i) = some (.int .u32 (z0.getD i 0))) ∧ ∀ n ∈ z0, (Lit.int .u32 n).wf = true) (y0 : len0 * 4 ≤ 140737488351232) (w1 : a1.size ≤ 140737488351232) :
    Calls Tryd.prog 7 #[.slice a0 len0 cap0, .string a1] w fun e w' => e = .returned (.bool true) ∧ Below w.heap.size w w' := by
  obtain ⟨l0, rfl, hr0, hm0, hw0, hc0⟩ := ReadsInt.ofRowC w0
  obtain ⟨k, h⟩ := P l0 a1 hm0 y0 hw0 w1
  refine (certpathlaw04_OidBack.calls k _ _ l0 a1 true w hG_ (Kd.C_of_reads (d := (0 : Int)) (h1 := fun _ => rfl) hr0) hc0 h).mono ?_
  rintro e w' ⟨rfl, hd⟩
  exact ⟨rfl, hd⟩

end Go.Proofs.YtcmmlemajlhjoaaDoor.Q
