-- Written by a program of this session (wip/prn.py) out of the translation, for the seat YtegmenlonpgnpaaDoor. Not trusted: Lean checks it.
import Derived.Test.YtegmenlonpgnpaaDoorRx0
import Derived.Test.YtegmenlonpgnpaaDoorRx1
import Derived.Test.YtegmenlonpgnpaaDoorRx2
namespace Go.Proofs.YtegmenlonpgnpaaDoor.Q
open Go.RowKit Go.Proofs.YtegmenlonpgnpaaDoorW.PrintWords Go.Proofs.YtegmenlonpgnpaaDoorW.PrintLast Go.Proofs.YtegmenlonpgnpaaDoorW.PrintMore
attribute [local go_sem] max2_int min2_int max_two min_two max_three min_three max_four min_four   -- for this text's walks alone
set_option linter.unusedVariables false
set_option linter.unusedSimpArgs false

/-! ### host_DNSWithin: function 28 -/
def host_DNSWithin.f (k : Nat) (a0 : ByteArray) (a1 : ByteArray) : Option (Bool) := if a0.toList = ([] : List UInt8) then ((host_Base.f k a1).bind fun t157 => (if t157 = true then (if a1.toList = ([] : List UInt8) then (some true) else ((host_equal.f a0 a1).bind fun t158 => (if t158 = true then (some true) else (if 1 + a1.size ≤ 9223372036854775807 then ((host_ends.f a0 ((⟨#[46]⟩ : ByteArray) ++ a1)).bind fun t159 => (some t159)) else (none))))) else (some false))) else ((host_Pattern.f k a0).bind fun t160 => (if t160 = true then ((host_Base.f k a1).bind fun t161 => (if t161 = true then (if a1.toList = ([] : List UInt8) then (some true) else ((host_equal.f a0 a1).bind fun t162 => (if t162 = true then (some true) else (if 1 + a1.size ≤ 9223372036854775807 then ((host_ends.f a0 ((⟨#[46]⟩ : ByteArray) ++ a1)).bind fun t163 => (some t163)) else (none))))) else (some false))) else (some false)))
theorem host_DNSWithin.mono : ∀ a0 a1 k, LeO (host_DNSWithin.f k a0 a1) (host_DNSWithin.f (k + 1) a0 a1) := by
  intro a0 a1 k
  unfold host_DNSWithin.f
  repeat' first
      | (with_reducible exact host_Base.mono _ _)
      | (with_reducible exact host_Pattern.mono _ _)
      | (with_reducible exact LeO.refl _)
      | (with_reducible exact LeO.none _)
      | (with_reducible refine LeO.ite ?_ ?_)
      | (with_reducible refine LeO.bind ?_ (fun _ => ?_))
      | exact host_Base.mono _ _
      | exact host_Pattern.mono _ _
      | exact LeO.none _
      | refine LeO.ite ?_ ?_
      | refine LeO.bind ?_ (fun _ => ?_)
set_option maxHeartbeats 8000000 in
set_option maxRecDepth 100000 in
theorem host_DNSWithin.calls (k : Nat) (a0 : ByteArray) (a1 : ByteArray) (r : Bool) (w : World) (hG_ : Ext.G w) (h : host_DNSWithin.f k a0 a1 = some r) :
    Calls Tryd.prog 28 #[.string a0, .string a1] w fun e w' => e = .returned (.bool r) ∧ Below w.heap.size w w' := by
  have HB := Aside0.mk (Below.refl w.heap.size w)
  have H : (if a0.toList = ([] : List UInt8) then ((host_Base.f k a1).bind fun t157 => (if t157 = true then (if a1.toList = ([] : List UInt8) then (some true) else ((host_equal.f a0 a1).bind fun t158 => (if t158 = true then (some true) else (if 1 + a1.size ≤ 9223372036854775807 then ((host_ends.f a0 ((⟨#[46]⟩ : ByteArray) ++ a1)).bind fun t159 => (some t159)) else (none))))) else (some false))) else ((host_Pattern.f k a0).bind fun t160 => (if t160 = true then ((host_Base.f k a1).bind fun t161 => (if t161 = true then (if a1.toList = ([] : List UInt8) then (some true) else ((host_equal.f a0 a1).bind fun t162 => (if t162 = true then (some true) else (if 1 + a1.size ≤ 9223372036854775807 then ((host_ends.f a0 ((⟨#[46]⟩ : ByteArray) ++ a1)).bind fun t163 => (some t163)) else (none))))) else (some false))) else (some false)))) = some r := h
  clear h
  by_cases c3 : a0.toList = ([] : List UInt8)
  · rw [if_pos c3] at H
    have c3b0 : (a0.toList == ([] : List UInt8)) = true := beq_iff_eq.mpr c3
    have c3b1 : (a0.toList != ([] : List UInt8)) = false := bne_eq_false_iff_eq.mpr c3
    (try (have c3b2 : (a0.toList).isEmpty = true := by simpa using c3))
    (try (have c3b3 : (!(a0.toList).isEmpty) = false := by simpa using c3))
    clear c3
    replace H := Option.bind_eq_some_iff.mp H
    obtain ⟨t157, A40, H⟩ := H
    replace H : (if t157 = true then (if a1.toList = ([] : List UInt8) then (some true) else ((host_equal.f a0 a1).bind fun t158 => (if t158 = true then (some true) else (if 1 + a1.size ≤ 9223372036854775807 then ((host_ends.f a0 ((⟨#[46]⟩ : ByteArray) ++ a1)).bind fun t159 => (some t159)) else (none))))) else (some false)) = some r := H
    have A4 := Aside0.mk A40
    clear A40
    by_cases c5 : t157 = true
    · subst c5
      have H1 : (if a1.toList = ([] : List UInt8) then (some true) else ((host_equal.f a0 a1).bind fun t158 => (if t158 = true then (some true) else (if 1 + a1.size ≤ 9223372036854775807 then ((host_ends.f a0 ((⟨#[46]⟩ : ByteArray) ++ a1)).bind fun t159 => (some t159)) else (none))))) = some r := by rw [if_pos rfl] at H; exact H
      clear H
      have H := H1
      clear H1
      by_cases c6 : a1.toList = ([] : List UInt8)
      · rw [if_pos c6] at H
        have c6b0 : (a1.toList == ([] : List UInt8)) = true := beq_iff_eq.mpr c6
        have c6b1 : (a1.toList != ([] : List UInt8)) = false := bne_eq_false_iff_eq.mpr c6
        (try (have c6b2 : (a1.toList).isEmpty = true := by simpa using c6))
        (try (have c6b3 : (!(a1.toList).isEmpty) = false := by simpa using c6))
        clear c6
        obtain rfl := Option.some.inj H
        go_enter Tryd.func28, Tryd.ntmps28
        go_wp2_with (first | (go_at_call 17; (with_reducible refine (host_Base.calls k a1 true _ ?side1 A4.out).mono ?_); (case side1 => refine Ext.G.step ?_ hG_; repeat (first | (with_reducible first | exact HB.out | apply below_alloc | apply pw_below_drewN | apply below_drew1) | exact HB.out)); rintro e w7 ⟨rfl, hb⟩; have n0_ := Aside0.mk (below_step (by repeat (first | (with_reducible first | exact HB.out | apply below_alloc | apply pw_below_drewN | apply below_drew1) | exact HB.out)) hb); clear HB; have HB := n0_; clear n0_; (try clear hb); (try clear hb2); (try clear hk); (try clear hi)))
        go_ret
        exact ⟨by first | rfl | (simp [errW_none, errW_some] <;> rfl) | (simp [*, errW_none, errW_some] <;> rfl), by repeat (first | (with_reducible first | exact HB.out | apply below_alloc | apply pw_below_drewN | apply below_drew1) | exact HB.out)⟩
      · rw [if_neg c6] at H
        have c6b0 : (a1.toList == ([] : List UInt8)) = false := beq_eq_false_iff_ne.mpr c6
        have c6b1 : (a1.toList != ([] : List UInt8)) = true := bne_iff_ne.mpr c6
        (try (have c6b2 : (a1.toList).isEmpty = false := by simpa using c6))
        (try (have c6b3 : (!(a1.toList).isEmpty) = true := by simpa using c6))
        replace H := Option.bind_eq_some_iff.mp H
        obtain ⟨t158, A80, H⟩ := H
        replace H : (if t158 = true then (some true) else (if 1 + a1.size ≤ 9223372036854775807 then ((host_ends.f a0 ((⟨#[46]⟩ : ByteArray) ++ a1)).bind fun t159 => (some t159)) else (none))) = some r := H
        have A8 := Aside0.mk A80
        clear A80
        by_cases c9 : t158 = true
        · subst c9
          have H1 : (some true) = some r := by rw [if_pos rfl] at H; exact H
          clear H
          have H := H1
          clear H1
          obtain rfl := Option.some.inj H
          go_enter Tryd.func28, Tryd.ntmps28
          go_wp2_with (first | (go_at_call 17; (with_reducible refine (host_Base.calls k a1 true _ ?side1 A4.out).mono ?_); (case side1 => refine Ext.G.step ?_ hG_; repeat (first | (with_reducible first | exact HB.out | apply below_alloc | apply pw_below_drewN | apply below_drew1) | exact HB.out)); rintro e w10 ⟨rfl, hb⟩; have n0_ := Aside0.mk (below_step (by repeat (first | (with_reducible first | exact HB.out | apply below_alloc | apply pw_below_drewN | apply below_drew1) | exact HB.out)) hb); clear HB; have HB := n0_; clear n0_; (try clear hb); (try clear hb2); (try clear hk); (try clear hi)) | (go_at_call 49; (with_reducible refine (host_equal.calls a0 a1 true _ ?side1 A8.out).mono ?_); (case side1 => refine Ext.G.step ?_ hG_; repeat (first | (with_reducible first | exact HB.out | apply below_alloc | apply pw_below_drewN | apply below_drew1) | exact HB.out)); rintro e w11 ⟨rfl, hb⟩; have n0_ := Aside0.mk (below_step (by repeat (first | (with_reducible first | exact HB.out | apply below_alloc | apply pw_below_drewN | apply below_drew1) | exact HB.out)) hb); clear HB; have HB := n0_; clear n0_; (try clear hb); (try clear hb2); (try clear hk); (try clear hi)))
          go_ret
          exact ⟨by first | rfl | (simp [errW_none, errW_some] <;> rfl) | (simp [*, errW_none, errW_some] <;> rfl), by repeat (first | (with_reducible first | exact HB.out | apply below_alloc | apply pw_below_drewN | apply below_drew1) | exact HB.out)⟩
        · replace c9 := Bool.eq_false_iff.mpr c9
          subst c9
          have H1 : (if 1 + a1.size ≤ 9223372036854775807 then ((host_ends.f a0 ((⟨#[46]⟩ : ByteArray) ++ a1)).bind fun t159 => (some t159)) else (none)) = some r := by rw [if_neg (show ¬ (false = true) by decide)] at H; exact H
          clear H
          have H := H1
          clear H1
          by_cases c12 : 1 + a1.size ≤ 9223372036854775807
          · rw [if_pos c12] at H
            have c12b0 := eq_true c12
            have c12b1 : decide (1 + a1.size ≤ 9223372036854775807) = true := decide_eq_true c12
            try have c12b2 : (9223372036854775807 < 1 + a1.size) = False := eq_false (Nat.not_lt.2 c12)
            replace H := Option.bind_eq_some_iff.mp H
            obtain ⟨t159, A130, H⟩ := H
            replace H : (some t159) = some r := H
            have A13 := Aside0.mk A130
            clear A130
            obtain rfl := Option.some.inj H
            go_enter Tryd.func28, Tryd.ntmps28
            go_wp2_with (first | (go_at_call 17; (with_reducible refine (host_Base.calls k a1 true _ ?side1 A4.out).mono ?_); (case side1 => refine Ext.G.step ?_ hG_; repeat (first | (with_reducible first | exact HB.out | apply below_alloc | apply pw_below_drewN | apply below_drew1) | exact HB.out)); rintro e w14 ⟨rfl, hb⟩; have n0_ := Aside0.mk (below_step (by repeat (first | (with_reducible first | exact HB.out | apply below_alloc | apply pw_below_drewN | apply below_drew1) | exact HB.out)) hb); clear HB; have HB := n0_; clear n0_; (try clear hb); (try clear hb2); (try clear hk); (try clear hi)) | (go_at_call 49; (with_reducible refine (host_equal.calls a0 a1 false _ ?side1 A8.out).mono ?_); (case side1 => refine Ext.G.step ?_ hG_; repeat (first | (with_reducible first | exact HB.out | apply below_alloc | apply pw_below_drewN | apply below_drew1) | exact HB.out)); rintro e w15 ⟨rfl, hb⟩; have n0_ := Aside0.mk (below_step (by repeat (first | (with_reducible first | exact HB.out | apply below_alloc | apply pw_below_drewN | apply below_drew1) | exact HB.out)) hb); clear HB; have HB := n0_; clear n0_; (try clear hb); (try clear hb2); (try clear hk); (try clear hi)) | (go_at_call 51; (with_reducible refine (host_ends.calls a0 ((⟨#[46]⟩ : ByteArray) ++ a1) t159 _ ?side1 A13.out).mono ?_); (case side1 => refine Ext.G.step ?_ hG_; repeat (first | (with_reducible first | exact HB.out | apply below_alloc | apply pw_below_drewN | apply below_drew1) | exact HB.out)); rintro e w16 ⟨rfl, hb⟩; have n0_ := Aside0.mk (below_step (by repeat (first | (with_reducible first | exact HB.out | apply below_alloc | apply pw_below_drewN | apply below_drew1) | exact HB.out)) hb); clear HB; have HB := n0_; clear n0_; (try clear hb); (try clear hb2); (try clear hk); (try clear hi)))
            go_ret
            exact ⟨by first | rfl | (simp [errW_none, errW_some] <;> rfl) | (simp [*, errW_none, errW_some] <;> rfl), by repeat (first | (with_reducible first | exact HB.out | apply below_alloc | apply pw_below_drewN | apply below_drew1) | exact HB.out)⟩
          · rw [if_neg c12] at H
            exact absurd H (by simp)
    · replace c5 := Bool.eq_false_iff.mpr c5
      subst c5
      have H1 : (some false) = some r := by rw [if_neg (show ¬ (false = true) by decide)] at H; exact H
      clear H
      have H := H1
      clear H1
      obtain rfl := Option.some.inj H
      go_enter Tryd.func28, Tryd.ntmps28
      go_wp2_with (first | (go_at_call 17; (with_reducible refine (host_Base.calls k a1 false _ ?side1 A4.out).mono ?_); (case side1 => refine Ext.G.step ?_ hG_; repeat (first | (with_reducible first | exact HB.out | apply below_alloc | apply pw_below_drewN | apply below_drew1) | exact HB.out)); rintro e w17 ⟨rfl, hb⟩; have n0_ := Aside0.mk (below_step (by repeat (first | (with_reducible first | exact HB.out | apply below_alloc | apply pw_below_drewN | apply below_drew1) | exact HB.out)) hb); clear HB; have HB := n0_; clear n0_; (try clear hb); (try clear hb2); (try clear hk); (try clear hi)))
      go_ret
      exact ⟨by first | rfl | (simp [errW_none, errW_some] <;> rfl) | (simp [*, errW_none, errW_some] <;> rfl), by repeat (first | (with_reducible first | exact HB.out | apply below_alloc | apply pw_below_drewN | apply below_drew1) | exact HB.out)⟩
  · rw [if_neg c3] at H
    have c3b0 : (a0.toList == ([] : List UInt8)) = false := beq_eq_false_iff_ne.mpr c3
    have c3b1 : (a0.toList != ([] : List UInt8)) = true := bne_iff_ne.mpr c3
    (try (have c3b2 : (a0.toList).isEmpty = false := by simpa using c3))
    (try (have c3b3 : (!(a0.toList).isEmpty) = true := by simpa using c3))
    replace H := Option.bind_eq_some_iff.mp H
    obtain ⟨t160, A180, H⟩ := H
    replace H : (if t160 = true then ((host_Base.f k a1).bind fun t161 => (if t161 = true then (if a1.toList = ([] : List UInt8) then (some true) else ((host_equal.f a0 a1).bind fun t162 => (if t162 = true then (some true) else (if 1 + a1.size ≤ 9223372036854775807 then ((host_ends.f a0 ((⟨#[46]⟩ : ByteArray) ++ a1)).bind fun t163 => (some t163)) else (none))))) else (some false))) else (some false)) = some r := H
    have A18 := Aside0.mk A180
    clear A180
    by_cases c19 : t160 = true
    · subst c19
      have H1 : ((host_Base.f k a1).bind fun t161 => (if t161 = true then (if a1.toList = ([] : List UInt8) then (some true) else ((host_equal.f a0 a1).bind fun t162 => (if t162 = true then (some true) else (if 1 + a1.size ≤ 9223372036854775807 then ((host_ends.f a0 ((⟨#[46]⟩ : ByteArray) ++ a1)).bind fun t163 => (some t163)) else (none))))) else (some false))) = some r := by rw [if_pos rfl] at H; exact H
      clear H
      have H := H1
      clear H1
      replace H := Option.bind_eq_some_iff.mp H
      obtain ⟨t161, A200, H⟩ := H
      replace H : (if t161 = true then (if a1.toList = ([] : List UInt8) then (some true) else ((host_equal.f a0 a1).bind fun t162 => (if t162 = true then (some true) else (if 1 + a1.size ≤ 9223372036854775807 then ((host_ends.f a0 ((⟨#[46]⟩ : ByteArray) ++ a1)).bind fun t163 => (some t163)) else (none))))) else (some false)) = some r := H
      have A20 := Aside0.mk A200
      clear A200
      by_cases c21 : t161 = true
      · subst c21
        have H1 : (if a1.toList = ([] : List UInt8) then (some true) else ((host_equal.f a0 a1).bind fun t162 => (if t162 = true then (some true) else (if 1 + a1.size ≤ 9223372036854775807 then ((host_ends.f a0 ((⟨#[46]⟩ : ByteArray) ++ a1)).bind fun t163 => (some t163)) else (none))))) = some r := by rw [if_pos rfl] at H; exact H
        clear H
        have H := H1
        clear H1
        by_cases c22 : a1.toList = ([] : List UInt8)
        · rw [if_pos c22] at H
          have c22b0 : (a1.toList == ([] : List UInt8)) = true := beq_iff_eq.mpr c22
          have c22b1 : (a1.toList != ([] : List UInt8)) = false := bne_eq_false_iff_eq.mpr c22
          (try (have c22b2 : (a1.toList).isEmpty = true := by simpa using c22))
          (try (have c22b3 : (!(a1.toList).isEmpty) = false := by simpa using c22))
          clear c22
          obtain rfl := Option.some.inj H
          go_enter Tryd.func28, Tryd.ntmps28
          go_wp2_with (first | (go_at_call 15; (with_reducible refine (host_Pattern.calls k a0 true _ ?side1 A18.out).mono ?_); (case side1 => refine Ext.G.step ?_ hG_; repeat (first | (with_reducible first | exact HB.out | apply below_alloc | apply pw_below_drewN | apply below_drew1) | exact HB.out)); rintro e w23 ⟨rfl, hb⟩; have n0_ := Aside0.mk (below_step (by repeat (first | (with_reducible first | exact HB.out | apply below_alloc | apply pw_below_drewN | apply below_drew1) | exact HB.out)) hb); clear HB; have HB := n0_; clear n0_; (try clear hb); (try clear hb2); (try clear hk); (try clear hi)) | (go_at_call 17; (with_reducible refine (host_Base.calls k a1 true _ ?side1 A20.out).mono ?_); (case side1 => refine Ext.G.step ?_ hG_; repeat (first | (with_reducible first | exact HB.out | apply below_alloc | apply pw_below_drewN | apply below_drew1) | exact HB.out)); rintro e w24 ⟨rfl, hb⟩; have n0_ := Aside0.mk (below_step (by repeat (first | (with_reducible first | exact HB.out | apply below_alloc | apply pw_below_drewN | apply below_drew1) | exact HB.out)) hb); clear HB; have HB := n0_; clear n0_; (try clear hb); (try clear hb2); (try clear hk); (try clear hi)))
          go_ret
          exact ⟨by first | rfl | (simp [errW_none, errW_some] <;> rfl) | (simp [*, errW_none, errW_some] <;> rfl), by repeat (first | (with_reducible first | exact HB.out | apply below_alloc | apply pw_below_drewN | apply below_drew1) | exact HB.out)⟩
        · rw [if_neg c22] at H
          have c22b0 : (a1.toList == ([] : List UInt8)) = false := beq_eq_false_iff_ne.mpr c22
          have c22b1 : (a1.toList != ([] : List UInt8)) = true := bne_iff_ne.mpr c22
          (try (have c22b2 : (a1.toList).isEmpty = false := by simpa using c22))
          (try (have c22b3 : (!(a1.toList).isEmpty) = true := by simpa using c22))
          replace H := Option.bind_eq_some_iff.mp H
          obtain ⟨t162, A250, H⟩ := H
          replace H : (if t162 = true then (some true) else (if 1 + a1.size ≤ 9223372036854775807 then ((host_ends.f a0 ((⟨#[46]⟩ : ByteArray) ++ a1)).bind fun t163 => (some t163)) else (none))) = some r := H
          have A25 := Aside0.mk A250
          clear A250
          by_cases c26 : t162 = true
          · subst c26
            have H1 : (some true) = some r := by rw [if_pos rfl] at H; exact H
            clear H
            have H := H1
            clear H1
            obtain rfl := Option.some.inj H
            go_enter Tryd.func28, Tryd.ntmps28
            go_wp2_with (first | (go_at_call 15; (with_reducible refine (host_Pattern.calls k a0 true _ ?side1 A18.out).mono ?_); (case side1 => refine Ext.G.step ?_ hG_; repeat (first | (with_reducible first | exact HB.out | apply below_alloc | apply pw_below_drewN | apply below_drew1) | exact HB.out)); rintro e w27 ⟨rfl, hb⟩; have n0_ := Aside0.mk (below_step (by repeat (first | (with_reducible first | exact HB.out | apply below_alloc | apply pw_below_drewN | apply below_drew1) | exact HB.out)) hb); clear HB; have HB := n0_; clear n0_; (try clear hb); (try clear hb2); (try clear hk); (try clear hi)) | (go_at_call 17; (with_reducible refine (host_Base.calls k a1 true _ ?side1 A20.out).mono ?_); (case side1 => refine Ext.G.step ?_ hG_; repeat (first | (with_reducible first | exact HB.out | apply below_alloc | apply pw_below_drewN | apply below_drew1) | exact HB.out)); rintro e w28 ⟨rfl, hb⟩; have n0_ := Aside0.mk (below_step (by repeat (first | (with_reducible first | exact HB.out | apply below_alloc | apply pw_below_drewN | apply below_drew1) | exact HB.out)) hb); clear HB; have HB := n0_; clear n0_; (try clear hb); (try clear hb2); (try clear hk); (try clear hi)) | (go_at_call 49; (with_reducible refine (host_equal.calls a0 a1 true _ ?side1 A25.out).mono ?_); (case side1 => refine Ext.G.step ?_ hG_; repeat (first | (with_reducible first | exact HB.out | apply below_alloc | apply pw_below_drewN | apply below_drew1) | exact HB.out)); rintro e w29 ⟨rfl, hb⟩; have n0_ := Aside0.mk (below_step (by repeat (first | (with_reducible first | exact HB.out | apply below_alloc | apply pw_below_drewN | apply below_drew1) | exact HB.out)) hb); clear HB; have HB := n0_; clear n0_; (try clear hb); (try clear hb2); (try clear hk); (try clear hi)))
            go_ret
            exact ⟨by first | rfl | (simp [errW_none, errW_some] <;> rfl) | (simp [*, errW_none, errW_some] <;> rfl), by repeat (first | (with_reducible first | exact HB.out | apply below_alloc | apply pw_below_drewN | apply below_drew1) | exact HB.out)⟩
          · replace c26 := Bool.eq_false_iff.mpr c26
            subst c26
            have H1 : (if 1 + a1.size ≤ 9223372036854775807 then ((host_ends.f a0 ((⟨#[46]⟩ : ByteArray) ++ a1)).bind fun t163 => (some t163)) else (none)) = some r := by rw [if_neg (show ¬ (false = true) by decide)] at H; exact H
            clear H
            have H := H1
            clear H1
            by_cases c30 : 1 + a1.size ≤ 9223372036854775807
            · rw [if_pos c30] at H
              have c30b0 := eq_true c30
              have c30b1 : decide (1 + a1.size ≤ 9223372036854775807) = true := decide_eq_true c30
              try have c30b2 : (9223372036854775807 < 1 + a1.size) = False := eq_false (Nat.not_lt.2 c30)
              replace H := Option.bind_eq_some_iff.mp H
              obtain ⟨t163, A310, H⟩ := H
              replace H : (some t163) = some r := H
              have A31 := Aside0.mk A310
              clear A310
              obtain rfl := Option.some.inj H
              go_enter Tryd.func28, Tryd.ntmps28
              go_wp2_with (first | (go_at_call 15; (with_reducible refine (host_Pattern.calls k a0 true _ ?side1 A18.out).mono ?_); (case side1 => refine Ext.G.step ?_ hG_; repeat (first | (with_reducible first | exact HB.out | apply below_alloc | apply pw_below_drewN | apply below_drew1) | exact HB.out)); rintro e w32 ⟨rfl, hb⟩; have n0_ := Aside0.mk (below_step (by repeat (first | (with_reducible first | exact HB.out | apply below_alloc | apply pw_below_drewN | apply below_drew1) | exact HB.out)) hb); clear HB; have HB := n0_; clear n0_; (try clear hb); (try clear hb2); (try clear hk); (try clear hi)) | (go_at_call 17; (with_reducible refine (host_Base.calls k a1 true _ ?side1 A20.out).mono ?_); (case side1 => refine Ext.G.step ?_ hG_; repeat (first | (with_reducible first | exact HB.out | apply below_alloc | apply pw_below_drewN | apply below_drew1) | exact HB.out)); rintro e w33 ⟨rfl, hb⟩; have n0_ := Aside0.mk (below_step (by repeat (first | (with_reducible first | exact HB.out | apply below_alloc | apply pw_below_drewN | apply below_drew1) | exact HB.out)) hb); clear HB; have HB := n0_; clear n0_; (try clear hb); (try clear hb2); (try clear hk); (try clear hi)) | (go_at_call 49; (with_reducible refine (host_equal.calls a0 a1 false _ ?side1 A25.out).mono ?_); (case side1 => refine Ext.G.step ?_ hG_; repeat (first | (with_reducible first | exact HB.out | apply below_alloc | apply pw_below_drewN | apply below_drew1) | exact HB.out)); rintro e w34 ⟨rfl, hb⟩; have n0_ := Aside0.mk (below_step (by repeat (first | (with_reducible first | exact HB.out | apply below_alloc | apply pw_below_drewN | apply below_drew1) | exact HB.out)) hb); clear HB; have HB := n0_; clear n0_; (try clear hb); (try clear hb2); (try clear hk); (try clear hi)) | (go_at_call 51; (with_reducible refine (host_ends.calls a0 ((⟨#[46]⟩ : ByteArray) ++ a1) t163 _ ?side1 A31.out).mono ?_); (case side1 => refine Ext.G.step ?_ hG_; repeat (first | (with_reducible first | exact HB.out | apply below_alloc | apply pw_below_drewN | apply below_drew1) | exact HB.out)); rintro e w35 ⟨rfl, hb⟩; have n0_ := Aside0.mk (below_step (by repeat (first | (with_reducible first | exact HB.out | apply below_alloc | apply pw_below_drewN | apply below_drew1) | exact HB.out)) hb); clear HB; have HB := n0_; clear n0_; (try clear hb); (try clear hb2); (try clear hk); (try clear hi)))
              go_ret
              exact ⟨by first | rfl | (simp [errW_none, errW_some] <;> rfl) | (simp [*, errW_none, errW_some] <;> rfl), by repeat (first | (with_reducible first | exact HB.out | apply below_alloc | apply pw_below_drewN | apply below_drew1) | exact HB.out)⟩
            · rw [if_neg c30] at H
              exact absurd H (by simp)
      · replace c21 := Bool.eq_false_iff.mpr c21
        subst c21
        have H1 : (some false) = some r := by rw [if_neg (show ¬ (false = true) by decide)] at H; exact H
        clear H
        have H := H1
        clear H1
        obtain rfl := Option.some.inj H
        go_enter Tryd.func28, Tryd.ntmps28
        go_wp2_with (first | (go_at_call 15; (with_reducible refine (host_Pattern.calls k a0 true _ ?side1 A18.out).mono ?_); (case side1 => refine Ext.G.step ?_ hG_; repeat (first | (with_reducible first | exact HB.out | apply below_alloc | apply pw_below_drewN | apply below_drew1) | exact HB.out)); rintro e w36 ⟨rfl, hb⟩; have n0_ := Aside0.mk (below_step (by repeat (first | (with_reducible first | exact HB.out | apply below_alloc | apply pw_below_drewN | apply below_drew1) | exact HB.out)) hb); clear HB; have HB := n0_; clear n0_; (try clear hb); (try clear hb2); (try clear hk); (try clear hi)) | (go_at_call 17; (with_reducible refine (host_Base.calls k a1 false _ ?side1 A20.out).mono ?_); (case side1 => refine Ext.G.step ?_ hG_; repeat (first | (with_reducible first | exact HB.out | apply below_alloc | apply pw_below_drewN | apply below_drew1) | exact HB.out)); rintro e w37 ⟨rfl, hb⟩; have n0_ := Aside0.mk (below_step (by repeat (first | (with_reducible first | exact HB.out | apply below_alloc | apply pw_below_drewN | apply below_drew1) | exact HB.out)) hb); clear HB; have HB := n0_; clear n0_; (try clear hb); (try clear hb2); (try clear hk); (try clear hi)))
        go_ret
        exact ⟨by first | rfl | (simp [errW_none, errW_some] <;> rfl) | (simp [*, errW_none, errW_some] <;> rfl), by repeat (first | (with_reducible first | exact HB.out | apply below_alloc | apply pw_below_drewN | apply below_drew1) | exact HB.out)⟩
    · replace c19 := Bool.eq_false_iff.mpr c19
      subst c19
      have H1 : (some false) = some r := by rw [if_neg (show ¬ (false = true) by decide)] at H; exact H
      clear H
      have H := H1
      clear H1
      obtain rfl := Option.some.inj H
      go_enter Tryd.func28, Tryd.ntmps28
      go_wp2_with (first | (go_at_call 15; (with_reducible refine (host_Pattern.calls k a0 false _ ?side1 A18.out).mono ?_); (case side1 => refine Ext.G.step ?_ hG_; repeat (first | (with_reducible first | exact HB.out | apply below_alloc | apply pw_below_drewN | apply below_drew1) | exact HB.out)); rintro e w38 ⟨rfl, hb⟩; have n0_ := Aside0.mk (below_step (by repeat (first | (with_reducible first | exact HB.out | apply below_alloc | apply pw_below_drewN | apply below_drew1) | exact HB.out)) hb); clear HB; have HB := n0_; clear n0_; (try clear hb); (try clear hb2); (try clear hk); (try clear hi)))
      go_ret
      exact ⟨by first | rfl | (simp [errW_none, errW_some] <;> rfl) | (simp [*, errW_none, errW_some] <;> rfl), by repeat (first | (with_reducible first | exact HB.out | apply below_alloc | apply pw_below_drewN | apply below_drew1) | exact HB.out)⟩

/-! ### certpathlaw08_awake: function 10 -/
def certpathlaw08_awake.f (k : Nat)  : Option (Bool) := (host_DNSWithin.f k (⟨#[77, 97, 105, 108, 46, 69, 120, 97, 109, 112, 108, 101, 46, 111, 114, 103]⟩ : ByteArray) (⟨#[101, 120, 97, 109, 112, 108, 101, 46, 111, 114, 103]⟩ : ByteArray)).bind fun t164 => (if t164 = true then ((host_DNSWithin.f k (⟨#[109, 121, 101, 120, 97, 109, 112, 108, 101, 46, 111, 114, 103]⟩ : ByteArray) (⟨#[101, 120, 97, 109, 112, 108, 101, 46, 111, 114, 103]⟩ : ByteArray)).bind fun t165 => (if t165 = true then (some false) else ((host_MailWithin.f k (⟨#[97, 110, 110, 64, 101, 120, 97, 109, 112, 108, 101, 46, 111, 114, 103]⟩ : ByteArray) (⟨#[46, 101, 120, 97, 109, 112, 108, 101, 46, 111, 114, 103]⟩ : ByteArray)).bind fun t166 => (if t166 = true then (some false) else ((host_MailWithin.f k (⟨#[97, 110, 110, 64, 101, 120, 97, 109, 112, 108, 101, 46, 111, 114, 103]⟩ : ByteArray) (⟨#[101, 120, 97, 109, 112, 108, 101, 46, 111, 114, 103]⟩ : ByteArray)).bind fun t167 => (some t167)))))) else (some false))
theorem certpathlaw08_awake.mono : ∀ k, LeO (certpathlaw08_awake.f k ) (certpathlaw08_awake.f (k + 1) ) := by
  intro  k
  unfold certpathlaw08_awake.f
  repeat' first
      | (with_reducible exact host_DNSWithin.mono _ _ _)
      | (with_reducible exact host_MailWithin.mono _ _ _)
      | (with_reducible exact LeO.refl _)
      | (with_reducible exact LeO.none _)
      | (with_reducible refine LeO.ite ?_ ?_)
      | (with_reducible refine LeO.bind ?_ (fun _ => ?_))
      | exact host_DNSWithin.mono _ _ _
      | exact host_MailWithin.mono _ _ _
      | exact LeO.none _
      | refine LeO.ite ?_ ?_
      | refine LeO.bind ?_ (fun _ => ?_)
set_option maxHeartbeats 8000000 in
set_option maxRecDepth 100000 in
theorem certpathlaw08_awake.calls (k : Nat)  (r : Bool) (w : World) (hG_ : Ext.G w) (h : certpathlaw08_awake.f k  = some r) :
    Calls Tryd.prog 10 #[] w fun e w' => e = .returned (.bool r) ∧ Below w.heap.size w w' := by
  have HB := Aside0.mk (Below.refl w.heap.size w)
  have H : ((host_DNSWithin.f k (⟨#[77, 97, 105, 108, 46, 69, 120, 97, 109, 112, 108, 101, 46, 111, 114, 103]⟩ : ByteArray) (⟨#[101, 120, 97, 109, 112, 108, 101, 46, 111, 114, 103]⟩ : ByteArray)).bind fun t164 => (if t164 = true then ((host_DNSWithin.f k (⟨#[109, 121, 101, 120, 97, 109, 112, 108, 101, 46, 111, 114, 103]⟩ : ByteArray) (⟨#[101, 120, 97, 109, 112, 108, 101, 46, 111, 114, 103]⟩ : ByteArray)).bind fun t165 => (if t165 = true then (some false) else ((host_MailWithin.f k (⟨#[97, 110, 110, 64, 101, 120, 97, 109, 112, 108, 101, 46, 111, 114, 103]⟩ : ByteArray) (⟨#[46, 101, 120, 97, 109, 112, 108, 101, 46, 111, 114, 103]⟩ : ByteArray)).bind fun t166 => (if t166 = true then (some false) else ((host_MailWithin.f k (⟨#[97, 110, 110, 64, 101, 120, 97, 109, 112, 108, 101, 46, 111, 114, 103]⟩ : ByteArray) (⟨#[101, 120, 97, 109, 112, 108, 101, 46, 111, 114, 103]⟩ : ByteArray)).bind fun t167 => (some t167)))))) else (some false))) = some r := h
  clear h
  replace H := Option.bind_eq_some_iff.mp H
  obtain ⟨t164, A10, H⟩ := H
  replace H : (if t164 = true then ((host_DNSWithin.f k (⟨#[109, 121, 101, 120, 97, 109, 112, 108, 101, 46, 111, 114, 103]⟩ : ByteArray) (⟨#[101, 120, 97, 109, 112, 108, 101, 46, 111, 114, 103]⟩ : ByteArray)).bind fun t165 => (if t165 = true then (some false) else ((host_MailWithin.f k (⟨#[97, 110, 110, 64, 101, 120, 97, 109, 112, 108, 101, 46, 111, 114, 103]⟩ : ByteArray) (⟨#[46, 101, 120, 97, 109, 112, 108, 101, 46, 111, 114, 103]⟩ : ByteArray)).bind fun t166 => (if t166 = true then (some false) else ((host_MailWithin.f k (⟨#[97, 110, 110, 64, 101, 120, 97, 109, 112, 108, 101, 46, 111, 114, 103]⟩ : ByteArray) (⟨#[101, 120, 97, 109, 112, 108, 101, 46, 111, 114, 103]⟩ : ByteArray)).bind fun t167 => (some t167)))))) else (some false)) = some r := H
  have A1 := Aside0.mk A10
  clear A10
  by_cases c2 : t164 = true
  · subst c2
    have H1 : ((host_DNSWithin.f k (⟨#[109, 121, 101, 120, 97, 109, 112, 108, 101, 46, 111, 114, 103]⟩ : ByteArray) (⟨#[101, 120, 97, 109, 112, 108, 101, 46, 111, 114, 103]⟩ : ByteArray)).bind fun t165 => (if t165 = true then (some false) else ((host_MailWithin.f k (⟨#[97, 110, 110, 64, 101, 120, 97, 109, 112, 108, 101, 46, 111, 114, 103]⟩ : ByteArray) (⟨#[46, 101, 120, 97, 109, 112, 108, 101, 46, 111, 114, 103]⟩ : ByteArray)).bind fun t166 => (if t166 = true then (some false) else ((host_MailWithin.f k (⟨#[97, 110, 110, 64, 101, 120, 97, 109, 112, 108, 101, 46, 111, 114, 103]⟩ : ByteArray) (⟨#[101, 120, 97, 109, 112, 108, 101, 46, 111, 114, 103]⟩ : ByteArray)).bind fun t167 => (some t167)))))) = some r := by rw [if_pos rfl] at H; exact H
    clear H
    have H := H1
    clear H1
    replace H := Option.bind_eq_some_iff.mp H
    obtain ⟨t165, A30, H⟩ := H
    replace H : (if t165 = true then (some false) else ((host_MailWithin.f k (⟨#[97, 110, 110, 64, 101, 120, 97, 109, 112, 108, 101, 46, 111, 114, 103]⟩ : ByteArray) (⟨#[46, 101, 120, 97, 109, 112, 108, 101, 46, 111, 114, 103]⟩ : ByteArray)).bind fun t166 => (if t166 = true then (some false) else ((host_MailWithin.f k (⟨#[97, 110, 110, 64, 101, 120, 97, 109, 112, 108, 101, 46, 111, 114, 103]⟩ : ByteArray) (⟨#[101, 120, 97, 109, 112, 108, 101, 46, 111, 114, 103]⟩ : ByteArray)).bind fun t167 => (some t167))))) = some r := H
    have A3 := Aside0.mk A30
    clear A30
    by_cases c4 : t165 = true
    · subst c4
      have H1 : (some false) = some r := by rw [if_pos rfl] at H; exact H
      clear H
      have H := H1
      clear H1
      obtain rfl := Option.some.inj H
      go_enter Tryd.func10, Tryd.ntmps10
      go_wp2_with (first | ((with_reducible refine gate_callee (f := 28) rfl ?_); refine goesL_ (some 1) rfl rfl Tryd.func28 (by kernel_rfl) rfl #[.string (⟨#[77, 97, 105, 108, 46, 69, 120, 97, 109, 112, 108, 101, 46, 111, 114, 103]⟩ : ByteArray), .string (⟨#[101, 120, 97, 109, 112, 108, 101, 46, 111, 114, 103]⟩ : ByteArray)] rfl (by (try simp only [List.map_toArray, List.map_cons, List.map_nil]); first | done | rfl | (simp only [List.length_drop, List.length_take]; rfl)) ?_; (with_reducible refine (host_DNSWithin.calls k (⟨#[77, 97, 105, 108, 46, 69, 120, 97, 109, 112, 108, 101, 46, 111, 114, 103]⟩ : ByteArray) (⟨#[101, 120, 97, 109, 112, 108, 101, 46, 111, 114, 103]⟩ : ByteArray) true _ ?side1 A1.out).mono ?_); (case side1 => refine Ext.G.step ?_ hG_; repeat (first | (with_reducible first | exact HB.out | apply below_alloc | apply pw_below_drewN | apply below_drew1) | exact HB.out)); rintro e w5 ⟨rfl, hb⟩; refine ⟨_, rfl, ?_⟩; have n0_ := Aside0.mk (below_step (by repeat (first | (with_reducible first | exact HB.out | apply below_alloc | apply pw_below_drewN | apply below_drew1) | exact HB.out)) hb); clear HB; have HB := n0_; clear n0_; (try clear hb); (try clear hb2); (try clear hk); (try clear hi)) | (go_at_call 28; (with_reducible refine (host_DNSWithin.calls k (⟨#[109, 121, 101, 120, 97, 109, 112, 108, 101, 46, 111, 114, 103]⟩ : ByteArray) (⟨#[101, 120, 97, 109, 112, 108, 101, 46, 111, 114, 103]⟩ : ByteArray) true _ ?side1 A3.out).mono ?_); (case side1 => refine Ext.G.step ?_ hG_; repeat (first | (with_reducible first | exact HB.out | apply below_alloc | apply pw_below_drewN | apply below_drew1) | exact HB.out)); rintro e w6 ⟨rfl, hb⟩; have n0_ := Aside0.mk (below_step (by repeat (first | (with_reducible first | exact HB.out | apply below_alloc | apply pw_below_drewN | apply below_drew1) | exact HB.out)) hb); clear HB; have HB := n0_; clear n0_; (try clear hb); (try clear hb2); (try clear hk); (try clear hi)))
      go_ret
      exact ⟨by first | rfl | (simp [errW_none, errW_some] <;> rfl) | (simp [*, errW_none, errW_some] <;> rfl), by repeat (first | (with_reducible first | exact HB.out | apply below_alloc | apply pw_below_drewN | apply below_drew1) | exact HB.out)⟩
    · replace c4 := Bool.eq_false_iff.mpr c4
      subst c4
      have H1 : ((host_MailWithin.f k (⟨#[97, 110, 110, 64, 101, 120, 97, 109, 112, 108, 101, 46, 111, 114, 103]⟩ : ByteArray) (⟨#[46, 101, 120, 97, 109, 112, 108, 101, 46, 111, 114, 103]⟩ : ByteArray)).bind fun t166 => (if t166 = true then (some false) else ((host_MailWithin.f k (⟨#[97, 110, 110, 64, 101, 120, 97, 109, 112, 108, 101, 46, 111, 114, 103]⟩ : ByteArray) (⟨#[101, 120, 97, 109, 112, 108, 101, 46, 111, 114, 103]⟩ : ByteArray)).bind fun t167 => (some t167)))) = some r := by rw [if_neg (show ¬ (false = true) by decide)] at H; exact H
      clear H
      have H := H1
      clear H1
      replace H := Option.bind_eq_some_iff.mp H
      obtain ⟨t166, A70, H⟩ := H
      replace H : (if t166 = true then (some false) else ((host_MailWithin.f k (⟨#[97, 110, 110, 64, 101, 120, 97, 109, 112, 108, 101, 46, 111, 114, 103]⟩ : ByteArray) (⟨#[101, 120, 97, 109, 112, 108, 101, 46, 111, 114, 103]⟩ : ByteArray)).bind fun t167 => (some t167))) = some r := H
      have A7 := Aside0.mk A70
      clear A70
      by_cases c8 : t166 = true
      · subst c8
        have H1 : (some false) = some r := by rw [if_pos rfl] at H; exact H
        clear H
        have H := H1
        clear H1
        obtain rfl := Option.some.inj H
        go_enter Tryd.func10, Tryd.ntmps10
        go_wp2_with (first | ((with_reducible refine gate_callee (f := 28) rfl ?_); refine goesL_ (some 1) rfl rfl Tryd.func28 (by kernel_rfl) rfl #[.string (⟨#[77, 97, 105, 108, 46, 69, 120, 97, 109, 112, 108, 101, 46, 111, 114, 103]⟩ : ByteArray), .string (⟨#[101, 120, 97, 109, 112, 108, 101, 46, 111, 114, 103]⟩ : ByteArray)] rfl (by (try simp only [List.map_toArray, List.map_cons, List.map_nil]); first | done | rfl | (simp only [List.length_drop, List.length_take]; rfl)) ?_; (with_reducible refine (host_DNSWithin.calls k (⟨#[77, 97, 105, 108, 46, 69, 120, 97, 109, 112, 108, 101, 46, 111, 114, 103]⟩ : ByteArray) (⟨#[101, 120, 97, 109, 112, 108, 101, 46, 111, 114, 103]⟩ : ByteArray) true _ ?side1 A1.out).mono ?_); (case side1 => refine Ext.G.step ?_ hG_; repeat (first | (with_reducible first | exact HB.out | apply below_alloc | apply pw_below_drewN | apply below_drew1) | exact HB.out)); rintro e w9 ⟨rfl, hb⟩; refine ⟨_, rfl, ?_⟩; have n0_ := Aside0.mk (below_step (by repeat (first | (with_reducible first | exact HB.out | apply below_alloc | apply pw_below_drewN | apply below_drew1) | exact HB.out)) hb); clear HB; have HB := n0_; clear n0_; (try clear hb); (try clear hb2); (try clear hk); (try clear hi)) | (go_at_call 28; (with_reducible refine (host_DNSWithin.calls k (⟨#[109, 121, 101, 120, 97, 109, 112, 108, 101, 46, 111, 114, 103]⟩ : ByteArray) (⟨#[101, 120, 97, 109, 112, 108, 101, 46, 111, 114, 103]⟩ : ByteArray) false _ ?side1 A3.out).mono ?_); (case side1 => refine Ext.G.step ?_ hG_; repeat (first | (with_reducible first | exact HB.out | apply below_alloc | apply pw_below_drewN | apply below_drew1) | exact HB.out)); rintro e w10 ⟨rfl, hb⟩; have n0_ := Aside0.mk (below_step (by repeat (first | (with_reducible first | exact HB.out | apply below_alloc | apply pw_below_drewN | apply below_drew1) | exact HB.out)) hb); clear HB; have HB := n0_; clear n0_; (try clear hb); (try clear hb2); (try clear hk); (try clear hi)) | (go_at_call 26; (with_reducible refine (host_MailWithin.calls k (⟨#[97, 110, 110, 64, 101, 120, 97, 109, 112, 108, 101, 46, 111, 114, 103]⟩ : ByteArray) (⟨#[46, 101, 120, 97, 109, 112, 108, 101, 46, 111, 114, 103]⟩ : ByteArray) true _ ?side1 A7.out).mono ?_); (case side1 => refine Ext.G.step ?_ hG_; repeat (first | (with_reducible first | exact HB.out | apply below_alloc | apply pw_below_drewN | apply below_drew1) | exact HB.out)); rintro e w11 ⟨rfl, hb⟩; have n0_ := Aside0.mk (below_step (by repeat (first | (with_reducible first | exact HB.out | apply below_alloc | apply pw_below_drewN | apply below_drew1) | exact HB.out)) hb); clear HB; have HB := n0_; clear n0_; (try clear hb); (try clear hb2); (try clear hk); (try clear hi)))
        go_ret
        exact ⟨by first | rfl | (simp [errW_none, errW_some] <;> rfl) | (simp [*, errW_none, errW_some] <;> rfl), by repeat (first | (with_reducible first | exact HB.out | apply below_alloc | apply pw_below_drewN | apply below_drew1) | exact HB.out)⟩
      · replace c8 := Bool.eq_false_iff.mpr c8
        subst c8
        have H1 : ((host_MailWithin.f k (⟨#[97, 110, 110, 64, 101, 120, 97, 109, 112, 108, 101, 46, 111, 114, 103]⟩ : ByteArray) (⟨#[101, 120, 97, 109, 112, 108, 101, 46, 111, 114, 103]⟩ : ByteArray)).bind fun t167 => (some t167)) = some r := by rw [if_neg (show ¬ (false = true) by decide)] at H; exact H
        clear H
        have H := H1
        clear H1
        replace H := Option.bind_eq_some_iff.mp H
        obtain ⟨t167, A120, H⟩ := H
        replace H : (some t167) = some r := H
        have A12 := Aside0.mk A120
        clear A120
        obtain rfl := Option.some.inj H
        go_enter Tryd.func10, Tryd.ntmps10
        go_wp2_with (first | ((with_reducible refine gate_callee (f := 28) rfl ?_); refine goesL_ (some 1) rfl rfl Tryd.func28 (by kernel_rfl) rfl #[.string (⟨#[77, 97, 105, 108, 46, 69, 120, 97, 109, 112, 108, 101, 46, 111, 114, 103]⟩ : ByteArray), .string (⟨#[101, 120, 97, 109, 112, 108, 101, 46, 111, 114, 103]⟩ : ByteArray)] rfl (by (try simp only [List.map_toArray, List.map_cons, List.map_nil]); first | done | rfl | (simp only [List.length_drop, List.length_take]; rfl)) ?_; (with_reducible refine (host_DNSWithin.calls k (⟨#[77, 97, 105, 108, 46, 69, 120, 97, 109, 112, 108, 101, 46, 111, 114, 103]⟩ : ByteArray) (⟨#[101, 120, 97, 109, 112, 108, 101, 46, 111, 114, 103]⟩ : ByteArray) true _ ?side1 A1.out).mono ?_); (case side1 => refine Ext.G.step ?_ hG_; repeat (first | (with_reducible first | exact HB.out | apply below_alloc | apply pw_below_drewN | apply below_drew1) | exact HB.out)); rintro e w13 ⟨rfl, hb⟩; refine ⟨_, rfl, ?_⟩; have n0_ := Aside0.mk (below_step (by repeat (first | (with_reducible first | exact HB.out | apply below_alloc | apply pw_below_drewN | apply below_drew1) | exact HB.out)) hb); clear HB; have HB := n0_; clear n0_; (try clear hb); (try clear hb2); (try clear hk); (try clear hi)) | (go_at_call 28; (with_reducible refine (host_DNSWithin.calls k (⟨#[109, 121, 101, 120, 97, 109, 112, 108, 101, 46, 111, 114, 103]⟩ : ByteArray) (⟨#[101, 120, 97, 109, 112, 108, 101, 46, 111, 114, 103]⟩ : ByteArray) false _ ?side1 A3.out).mono ?_); (case side1 => refine Ext.G.step ?_ hG_; repeat (first | (with_reducible first | exact HB.out | apply below_alloc | apply pw_below_drewN | apply below_drew1) | exact HB.out)); rintro e w14 ⟨rfl, hb⟩; have n0_ := Aside0.mk (below_step (by repeat (first | (with_reducible first | exact HB.out | apply below_alloc | apply pw_below_drewN | apply below_drew1) | exact HB.out)) hb); clear HB; have HB := n0_; clear n0_; (try clear hb); (try clear hb2); (try clear hk); (try clear hi)) | (go_at_call 26; (with_reducible refine (host_MailWithin.calls k (⟨#[97, 110, 110, 64, 101, 120, 97, 109, 112, 108, 101, 46, 111, 114, 103]⟩ : ByteArray) (⟨#[46, 101, 120, 97, 109, 112, 108, 101, 46, 111, 114, 103]⟩ : ByteArray) false _ ?side1 A7.out).mono ?_); (case side1 => refine Ext.G.step ?_ hG_; repeat (first | (with_reducible first | exact HB.out | apply below_alloc | apply pw_below_drewN | apply below_drew1) | exact HB.out)); rintro e w15 ⟨rfl, hb⟩; have n0_ := Aside0.mk (below_step (by repeat (first | (with_reducible first | exact HB.out | apply below_alloc | apply pw_below_drewN | apply below_drew1) | exact HB.out)) hb); clear HB; have HB := n0_; clear n0_; (try clear hb); (try clear hb2); (try clear hk); (try clear hi)) | (go_at_call 26; (with_reducible refine (host_MailWithin.calls k (⟨#[97, 110, 110, 64, 101, 120, 97, 109, 112, 108, 101, 46, 111, 114, 103]⟩ : ByteArray) (⟨#[101, 120, 97, 109, 112, 108, 101, 46, 111, 114, 103]⟩ : ByteArray) t167 _ ?side1 A12.out).mono ?_); (case side1 => refine Ext.G.step ?_ hG_; repeat (first | (with_reducible first | exact HB.out | apply below_alloc | apply pw_below_drewN | apply below_drew1) | exact HB.out)); rintro e w16 ⟨rfl, hb⟩; have n0_ := Aside0.mk (below_step (by repeat (first | (with_reducible first | exact HB.out | apply below_alloc | apply pw_below_drewN | apply below_drew1) | exact HB.out)) hb); clear HB; have HB := n0_; clear n0_; (try clear hb); (try clear hb2); (try clear hk); (try clear hi)))
        go_ret
        exact ⟨by first | rfl | (simp [errW_none, errW_some] <;> rfl) | (simp [*, errW_none, errW_some] <;> rfl), by repeat (first | (with_reducible first | exact HB.out | apply below_alloc | apply pw_below_drewN | apply below_drew1) | exact HB.out)⟩
  · replace c2 := Bool.eq_false_iff.mpr c2
    subst c2
    have H1 : (some false) = some r := by rw [if_neg (show ¬ (false = true) by decide)] at H; exact H
    clear H
    have H := H1
    clear H1
    obtain rfl := Option.some.inj H
    go_enter Tryd.func10, Tryd.ntmps10
    go_wp2_with (first | ((with_reducible refine gate_callee (f := 28) rfl ?_); refine goesL_ (some 1) rfl rfl Tryd.func28 (by kernel_rfl) rfl #[.string (⟨#[77, 97, 105, 108, 46, 69, 120, 97, 109, 112, 108, 101, 46, 111, 114, 103]⟩ : ByteArray), .string (⟨#[101, 120, 97, 109, 112, 108, 101, 46, 111, 114, 103]⟩ : ByteArray)] rfl (by (try simp only [List.map_toArray, List.map_cons, List.map_nil]); first | done | rfl | (simp only [List.length_drop, List.length_take]; rfl)) ?_; (with_reducible refine (host_DNSWithin.calls k (⟨#[77, 97, 105, 108, 46, 69, 120, 97, 109, 112, 108, 101, 46, 111, 114, 103]⟩ : ByteArray) (⟨#[101, 120, 97, 109, 112, 108, 101, 46, 111, 114, 103]⟩ : ByteArray) false _ ?side1 A1.out).mono ?_); (case side1 => refine Ext.G.step ?_ hG_; repeat (first | (with_reducible first | exact HB.out | apply below_alloc | apply pw_below_drewN | apply below_drew1) | exact HB.out)); rintro e w17 ⟨rfl, hb⟩; refine ⟨_, rfl, ?_⟩; have n0_ := Aside0.mk (below_step (by repeat (first | (with_reducible first | exact HB.out | apply below_alloc | apply pw_below_drewN | apply below_drew1) | exact HB.out)) hb); clear HB; have HB := n0_; clear n0_; (try clear hb); (try clear hb2); (try clear hk); (try clear hi)))
    go_ret
    exact ⟨by first | rfl | (simp [errW_none, errW_some] <;> rfl) | (simp [*, errW_none, errW_some] <;> rfl), by repeat (first | (with_reducible first | exact HB.out | apply below_alloc | apply pw_below_drewN | apply below_drew1) | exact HB.out)⟩

end Go.Proofs.YtegmenlonpgnpaaDoor.Q
