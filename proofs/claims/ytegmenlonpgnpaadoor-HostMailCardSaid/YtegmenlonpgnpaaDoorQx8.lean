-- Written by a program of this session (wip/prn.py) out of the translation, for the seat YtegmenlonpgnpaaDoor. Not trusted: Lean checks it.
import Derived.Test.YtegmenlonpgnpaaDoorQx0
import Derived.Test.YtegmenlonpgnpaaDoorQx5
import Derived.Test.YtegmenlonpgnpaaDoorQx7
namespace Go.Proofs.YtegmenlonpgnpaaDoor.Q
open Go.RowKit Go.Proofs.YtegmenlonpgnpaaDoorW.PrintWords Go.Proofs.YtegmenlonpgnpaaDoorW.PrintLast Go.Proofs.YtegmenlonpgnpaaDoorW.PrintMore
attribute [local go_sem] max2_int min2_int max_two min_two max_three min_three max_four min_four   -- for this text's walks alone
set_option linter.unusedVariables false
set_option linter.unusedSimpArgs false

/-! ### certpathlaw08_awake: function 10 -/
def certpathlaw08_awake.f (k : Nat)  : Option (Bool) := (host_DNSWithin.f k (⟨#[77, 97, 105, 108, 46, 69, 120, 97, 109, 112, 108, 101, 46, 111, 114, 103]⟩ : ByteArray) (⟨#[101, 120, 97, 109, 112, 108, 101, 46, 111, 114, 103]⟩ : ByteArray)).bind fun t164 => (if t164 = true then ((host_DNSWithin.f k (⟨#[109, 121, 101, 120, 97, 109, 112, 108, 101, 46, 111, 114, 103]⟩ : ByteArray) (⟨#[101, 120, 97, 109, 112, 108, 101, 46, 111, 114, 103]⟩ : ByteArray)).bind fun t165 => (if t165 = true then (some false) else ((host_MailWithin.f k (⟨#[97, 110, 110, 64, 101, 120, 97, 109, 112, 108, 101, 46, 111, 114, 103]⟩ : ByteArray) (⟨#[46, 101, 120, 97, 109, 112, 108, 101, 46, 111, 114, 103]⟩ : ByteArray)).bind fun t166 => (if t166 = true then (some false) else ((host_MailWithin.f k (⟨#[97, 110, 110, 64, 101, 120, 97, 109, 112, 108, 101, 46, 111, 114, 103]⟩ : ByteArray) (⟨#[101, 120, 97, 109, 112, 108, 101, 46, 111, 114, 103]⟩ : ByteArray)).bind fun t167 => (some t167)))))) else (some false))
theorem certpathlaw08_awake.mono : ∀ k, LeO (certpathlaw08_awake.f k ) (certpathlaw08_awake.f (k + 1) ) := by
  intro  k
  unfold certpathlaw08_awake.f
  repeat' first
      | (with_reducible exact host_DNSWithin.mono _ _ _)
      | (with_reducible exact host_MailWithin.mono _ _ _)
      | (with_reducible exact LeO.refl _)
      | (with_reducible exact LeO.none _)
      | (with_reducible refine LeO.ite ?_ ?_)
      | (with_reducible refine LeO.bind ?_ (fun _ => ?_))
      | exact host_DNSWithin.mono _ _ _
      | exact host_MailWithin.mono _ _ _
      | exact LeO.none _
      | refine LeO.ite ?_ ?_
      | refine LeO.bind ?_ (fun _ => ?_)
set_option maxHeartbeats 8000000 in
set_option maxRecDepth 100000 in
theorem certpathlaw08_awake.calls (k : Nat)  (r : Bool) (w : World) (hG_ : Ext.G w) (h : certpathlaw08_awake.f k  = some r) :
    Calls Tryd.prog 10 #[] w fun e w' => e = .returned (.bool r) ∧ Below w.heap.size w w' := by
  have HB := Aside0.mk (Below.refl w.heap.size w)
  have H : ((host_DNSWithin.f k (⟨#[77, 97, 105, 108, 46, 69, 120, 97, 109, 112, 108, 101, 46, 111, 114, 103]⟩ : ByteArray) (⟨#[101, 120, 97, 109, 112, 108, 101, 46, 111, 114, 103]⟩ : ByteArray)).bind fun t164 => (if t164 = true then ((host_DNSWithin.f k (⟨#[109, 121, 101, 120, 97, 109, 112, 108, 101, 46, 111, 114, 103]⟩ : ByteArray) (⟨#[101, 120, 97, 109, 112, 108, 101, 46, 111, 114, 103]⟩ : ByteArray)).bind fun t165 => (if t165 = true then (some false) else ((host_MailWithin.f k (⟨#[97, 110, 110, 64, 101, 120, 97, 109, 112, 108, 101, 46, 111, 114, 103]⟩ : ByteArray) (⟨#[46, 101, 120, 97, 109, 112, 108, 101, 46, 111, 114, 103]⟩ : ByteArray)).bind fun t166 => (if t166 = true then (some false) else ((host_MailWithin.f k (⟨#[97, 110, 110, 64, 101, 120, 97, 109, 112, 108, 101, 46, 111, 114, 103]⟩ : ByteArray) (⟨#[101, 120, 97, 109, 112, 108, 101, 46, 111, 114, 103]⟩ : ByteArray)).bind fun t167 => (some t167)))))) else (some false))) = some r := h
  clear h
  replace H := Option.bind_eq_some_iff.mp H
  obtain ⟨t164, A10, H⟩ := H
  replace H : (if t164 = true then ((host_DNSWithin.f k (⟨#[109, 121, 101, 120, 97, 109, 112, 108, 101, 46, 111, 114, 103]⟩ : ByteArray) (⟨#[101, 120, 97, 109, 112, 108, 101, 46, 111, 114, 103]⟩ : ByteArray)).bind fun t165 => (if t165 = true then (some false) else ((host_MailWithin.f k (⟨#[97, 110, 110, 64, 101, 120, 97, 109, 112, 108, 101, 46, 111, 114, 103]⟩ : ByteArray) (⟨#[46, 101, 120, 97, 109, 112, 108, 101, 46, 111, 114, 103]⟩ : ByteArray)).bind fun t166 => (if t166 = true then (some false) else ((host_MailWithin.f k (⟨#[97, 110, 110, 64, 101, 120, 97, 109, 112, 108, 101, 46, 111, 114, 103]⟩ : ByteArray) (⟨#[101, 120, 97, 109, 112, 108, 101, 46, 111, 114, 103]⟩ : ByteArray)).bind fun t167 => (some t167)))))) else (some false)) = some r := H
  have A1 := Aside0.mk A10
  clear A10
  by_cases c2 : t164 = true
  · subst c2
    have H1 : ((host_DNSWithin.f k (⟨#[109, 121, 101, 120, 97, 109, 112, 108, 101, 46, 111, 114, 103]⟩ : ByteArray) (⟨#[101, 120, 97, 109, 112, 108, 101, 46, 111, 114, 103]⟩ : ByteArray)).bind fun t165 => (if t165 = true then (some false) else ((host_MailWithin.f k (⟨#[97, 110, 110, 64, 101, 120, 97, 109, 112, 108, 101, 46, 111, 114, 103]⟩ : ByteArray) (⟨#[46, 101, 120, 97, 109, 112, 108, 101, 46, 111, 114, 103]⟩ : ByteArray)).bind fun t166 => (if t166 = true then (some false) else ((host_MailWithin.f k (⟨#[97, 110, 110, 64, 101, 120, 97, 109, 112, 108, 101, 46, 111, 114, 103]⟩ : ByteArray) (⟨#[101, 120, 97, 109, 112, 108, 101, 46, 111, 114, 103]⟩ : ByteArray)).bind fun t167 => (some t167)))))) = some r := by rw [if_pos rfl] at H; exact H
    clear H
    have H := H1
    clear H1
    replace H := Option.bind_eq_some_iff.mp H
    obtain ⟨t165, A30, H⟩ := H
    replace H : (if t165 = true then (some false) else ((host_MailWithin.f k (⟨#[97, 110, 110, 64, 101, 120, 97, 109, 112, 108, 101, 46, 111, 114, 103]⟩ : ByteArray) (⟨#[46, 101, 120, 97, 109, 112, 108, 101, 46, 111, 114, 103]⟩ : ByteArray)).bind fun t166 => (if t166 = true then (some false) else ((host_MailWithin.f k (⟨#[97, 110, 110, 64, 101, 120, 97, 109, 112, 108, 101, 46, 111, 114, 103]⟩ : ByteArray) (⟨#[101, 120, 97, 109, 112, 108, 101, 46, 111, 114, 103]⟩ : ByteArray)).bind fun t167 => (some t167))))) = some r := H
    have A3 := Aside0.mk A30
    clear A30
    by_cases c4 : t165 = true
    · subst c4
      have H1 : (some false) = some r := by rw [if_pos rfl] at H; exact H
      clear H
      have H := H1
      clear H1
      obtain rfl := Option.some.inj H
      go_enter Tryd.func10, Tryd.ntmps10
      go_wp2_with (first | ((with_reducible refine gate_callee (f := 28) rfl ?_); refine goesL_ (some 1) rfl rfl Tryd.func28 (by kernel_rfl) rfl #[.string (⟨#[77, 97, 105, 108, 46, 69, 120, 97, 109, 112, 108, 101, 46, 111, 114, 103]⟩ : ByteArray), .string (⟨#[101, 120, 97, 109, 112, 108, 101, 46, 111, 114, 103]⟩ : ByteArray)] rfl (by (try simp only [List.map_toArray, List.map_cons, List.map_nil]); first | done | rfl | (simp only [List.length_drop, List.length_take]; rfl)) ?_; (with_reducible refine (host_DNSWithin.calls k (⟨#[77, 97, 105, 108, 46, 69, 120, 97, 109, 112, 108, 101, 46, 111, 114, 103]⟩ : ByteArray) (⟨#[101, 120, 97, 109, 112, 108, 101, 46, 111, 114, 103]⟩ : ByteArray) true _ ?side1 A1.out).mono ?_); (case side1 => refine Ext.G.step ?_ hG_; repeat (first | (with_reducible first | exact HB.out | apply below_alloc | apply pw_below_drewN | apply below_drew1) | exact HB.out)); rintro e w5 ⟨rfl, hb⟩; refine ⟨_, rfl, ?_⟩; have n0_ := Aside0.mk (below_step (by repeat (first | (with_reducible first | exact HB.out | apply below_alloc | apply pw_below_drewN | apply below_drew1) | exact HB.out)) hb); clear HB; have HB := n0_; clear n0_; (try clear hb); (try clear hb2); (try clear hk); (try clear hi)) | (go_at_call 28; (with_reducible refine (host_DNSWithin.calls k (⟨#[109, 121, 101, 120, 97, 109, 112, 108, 101, 46, 111, 114, 103]⟩ : ByteArray) (⟨#[101, 120, 97, 109, 112, 108, 101, 46, 111, 114, 103]⟩ : ByteArray) true _ ?side1 A3.out).mono ?_); (case side1 => refine Ext.G.step ?_ hG_; repeat (first | (with_reducible first | exact HB.out | apply below_alloc | apply pw_below_drewN | apply below_drew1) | exact HB.out)); rintro e w6 ⟨rfl, hb⟩; have n0_ := Aside0.mk (below_step (by repeat (first | (with_reducible first | exact HB.out | apply below_alloc | apply pw_below_drewN | apply below_drew1) | exact HB.out)) hb); clear HB; have HB := n0_; clear n0_; (try clear hb); (try clear hb2); (try clear hk); (try clear hi)))
      go_ret
      exact ⟨by first | rfl | (simp [errW_none, errW_some] <;> rfl) | (simp [*, errW_none, errW_some] <;> rfl), by repeat (first | (with_reducible first | exact HB.out | apply below_alloc | apply pw_below_drewN | apply below_drew1) | exact HB.out)⟩
    · replace c4 := Bool.eq_false_iff.mpr c4
      subst c4
      have H1 : ((host_MailWithin.f k (⟨#[97, 110, 110, 64, 101, 120, 97, 109, 112, 108, 101, 46, 111, 114, 103]⟩ : ByteArray) (⟨#[46, 101, 120, 97, 109, 112, 108, 101, 46, 111, 114, 103]⟩ : ByteArray)).bind fun t166 => (if t166 = true then (some false) else ((host_MailWithin.f k (⟨#[97, 110, 110, 64, 101, 120, 97, 109, 112, 108, 101, 46, 111, 114, 103]⟩ : ByteArray) (⟨#[101, 120, 97, 109, 112, 108, 101, 46, 111, 114, 103]⟩ : ByteArray)).bind fun t167 => (some t167)))) = some r := by rw [if_neg (show ¬ (false = true) by decide)] at H; exact H
      clear H
      have H := H1
      clear H1
      replace H := Option.bind_eq_some_iff.mp H
      obtain ⟨t166, A70, H⟩ := H
      replace H : (if t166 = true then (some false) else ((host_MailWithin.f k (⟨#[97, 110, 110, 64, 101, 120, 97, 109, 112, 108, 101, 46, 111, 114, 103]⟩ : ByteArray) (⟨#[101, 120, 97, 109, 112, 108, 101, 46, 111, 114, 103]⟩ : ByteArray)).bind fun t167 => (some t167))) = some r := H
      have A7 := Aside0.mk A70
      clear A70
      by_cases c8 : t166 = true
      · subst c8
        have H1 : (some false) = some r := by rw [if_pos rfl] at H; exact H
        clear H
        have H := H1
        clear H1
        obtain rfl := Option.some.inj H
        go_enter Tryd.func10, Tryd.ntmps10
        go_wp2_with (first | ((with_reducible refine gate_callee (f := 28) rfl ?_); refine goesL_ (some 1) rfl rfl Tryd.func28 (by kernel_rfl) rfl #[.string (⟨#[77, 97, 105, 108, 46, 69, 120, 97, 109, 112, 108, 101, 46, 111, 114, 103]⟩ : ByteArray), .string (⟨#[101, 120, 97, 109, 112, 108, 101, 46, 111, 114, 103]⟩ : ByteArray)] rfl (by (try simp only [List.map_toArray, List.map_cons, List.map_nil]); first | done | rfl | (simp only [List.length_drop, List.length_take]; rfl)) ?_; (with_reducible refine (host_DNSWithin.calls k (⟨#[77, 97, 105, 108, 46, 69, 120, 97, 109, 112, 108, 101, 46, 111, 114, 103]⟩ : ByteArray) (⟨#[101, 120, 97, 109, 112, 108, 101, 46, 111, 114, 103]⟩ : ByteArray) true _ ?side1 A1.out).mono ?_); (case side1 => refine Ext.G.step ?_ hG_; repeat (first | (with_reducible first | exact HB.out | apply below_alloc | apply pw_below_drewN | apply below_drew1) | exact HB.out)); rintro e w9 ⟨rfl, hb⟩; refine ⟨_, rfl, ?_⟩; have n0_ := Aside0.mk (below_step (by repeat (first | (with_reducible first | exact HB.out | apply below_alloc | apply pw_below_drewN | apply below_drew1) | exact HB.out)) hb); clear HB; have HB := n0_; clear n0_; (try clear hb); (try clear hb2); (try clear hk); (try clear hi)) | (go_at_call 28; (with_reducible refine (host_DNSWithin.calls k (⟨#[109, 121, 101, 120, 97, 109, 112, 108, 101, 46, 111, 114, 103]⟩ : ByteArray) (⟨#[101, 120, 97, 109, 112, 108, 101, 46, 111, 114, 103]⟩ : ByteArray) false _ ?side1 A3.out).mono ?_); (case side1 => refine Ext.G.step ?_ hG_; repeat (first | (with_reducible first | exact HB.out | apply below_alloc | apply pw_below_drewN | apply below_drew1) | exact HB.out)); rintro e w10 ⟨rfl, hb⟩; have n0_ := Aside0.mk (below_step (by repeat (first | (with_reducible first | exact HB.out | apply below_alloc | apply pw_below_drewN | apply below_drew1) | exact HB.out)) hb); clear HB; have HB := n0_; clear n0_; (try clear hb); (try clear hb2); (try clear hk); (try clear hi)) | (go_at_call 26; (with_reducible refine (host_MailWithin.calls k (⟨#[97, 110, 110, 64, 101, 120, 97, 109, 112, 108, 101, 46, 111, 114, 103]⟩ : ByteArray) (⟨#[46, 101, 120, 97, 109, 112, 108, 101, 46, 111, 114, 103]⟩ : ByteArray) true _ ?side1 A7.out).mono ?_); (case side1 => refine Ext.G.step ?_ hG_; repeat (first | (with_reducible first | exact HB.out | apply below_alloc | apply pw_below_drewN | apply below_drew1) | exact HB.out)); rintro e w11 ⟨rfl, hb⟩; have n0_ := Aside0.mk (below_step (by repeat (first | (with_reducible first | exact HB.out | apply below_alloc | apply pw_below_drewN | apply below_drew1) | exact HB.out)) hb); clear HB; have HB := n0_; clear n0_; (try clear hb); (try clear hb2); (try clear hk); (try clear hi)))
        go_ret
        exact ⟨by first | rfl | (simp [errW_none, errW_some] <;> rfl) | (simp [*, errW_none, errW_some] <;> rfl), by repeat (first | (with_reducible first | exact HB.out | apply below_alloc | apply pw_below_drewN | apply below_drew1) | exact HB.out)⟩
      · replace c8 := Bool.eq_false_iff.mpr c8
        subst c8
        have H1 : ((host_MailWithin.f k (⟨#[97, 110, 110, 64, 101, 120, 97, 109, 112, 108, 101, 46, 111, 114, 103]⟩ : ByteArray) (⟨#[101, 120, 97, 109, 112, 108, 101, 46, 111, 114, 103]⟩ : ByteArray)).bind fun t167 => (some t167)) = some r := by rw [if_neg (show ¬ (false = true) by decide)] at H; exact H
        clear H
        have H := H1
        clear H1
        replace H := Option.bind_eq_some_iff.mp H
        obtain ⟨t167, A120, H⟩ := H
        replace H : (some t167) = some r := H
        have A12 := Aside0.mk A120
        clear A120
        obtain rfl := Option.some.inj H
        go_enter Tryd.func10, Tryd.ntmps10
        go_wp2_with (first | ((with_reducible refine gate_callee (f := 28) rfl ?_); refine goesL_ (some 1) rfl rfl Tryd.func28 (by kernel_rfl) rfl #[.string (⟨#[77, 97, 105, 108, 46, 69, 120, 97, 109, 112, 108, 101, 46, 111, 114, 103]⟩ : ByteArray), .string (⟨#[101, 120, 97, 109, 112, 108, 101, 46, 111, 114, 103]⟩ : ByteArray)] rfl (by (try simp only [List.map_toArray, List.map_cons, List.map_nil]); first | done | rfl | (simp only [List.length_drop, List.length_take]; rfl)) ?_; (with_reducible refine (host_DNSWithin.calls k (⟨#[77, 97, 105, 108, 46, 69, 120, 97, 109, 112, 108, 101, 46, 111, 114, 103]⟩ : ByteArray) (⟨#[101, 120, 97, 109, 112, 108, 101, 46, 111, 114, 103]⟩ : ByteArray) true _ ?side1 A1.out).mono ?_); (case side1 => refine Ext.G.step ?_ hG_; repeat (first | (with_reducible first | exact HB.out | apply below_alloc | apply pw_below_drewN | apply below_drew1) | exact HB.out)); rintro e w13 ⟨rfl, hb⟩; refine ⟨_, rfl, ?_⟩; have n0_ := Aside0.mk (below_step (by repeat (first | (with_reducible first | exact HB.out | apply below_alloc | apply pw_below_drewN | apply below_drew1) | exact HB.out)) hb); clear HB; have HB := n0_; clear n0_; (try clear hb); (try clear hb2); (try clear hk); (try clear hi)) | (go_at_call 28; (with_reducible refine (host_DNSWithin.calls k (⟨#[109, 121, 101, 120, 97, 109, 112, 108, 101, 46, 111, 114, 103]⟩ : ByteArray) (⟨#[101, 120, 97, 109, 112, 108, 101, 46, 111, 114, 103]⟩ : ByteArray) false _ ?side1 A3.out).mono ?_); (case side1 => refine Ext.G.step ?_ hG_; repeat (first | (with_reducible first | exact HB.out | apply below_alloc | apply pw_below_drewN | apply below_drew1) | exact HB.out)); rintro e w14 ⟨rfl, hb⟩; have n0_ := Aside0.mk (below_step (by repeat (first | (with_reducible first | exact HB.out | apply below_alloc | apply pw_below_drewN | apply below_drew1) | exact HB.out)) hb); clear HB; have HB := n0_; clear n0_; (try clear hb); (try clear hb2); (try clear hk); (try clear hi)) | (go_at_call 26; (with_reducible refine (host_MailWithin.calls k (⟨#[97, 110, 110, 64, 101, 120, 97, 109, 112, 108, 101, 46, 111, 114, 103]⟩ : ByteArray) (⟨#[46, 101, 120, 97, 109, 112, 108, 101, 46, 111, 114, 103]⟩ : ByteArray) false _ ?side1 A7.out).mono ?_); (case side1 => refine Ext.G.step ?_ hG_; repeat (first | (with_reducible first | exact HB.out | apply below_alloc | apply pw_below_drewN | apply below_drew1) | exact HB.out)); rintro e w15 ⟨rfl, hb⟩; have n0_ := Aside0.mk (below_step (by repeat (first | (with_reducible first | exact HB.out | apply below_alloc | apply pw_below_drewN | apply below_drew1) | exact HB.out)) hb); clear HB; have HB := n0_; clear n0_; (try clear hb); (try clear hb2); (try clear hk); (try clear hi)) | (go_at_call 26; (with_reducible refine (host_MailWithin.calls k (⟨#[97, 110, 110, 64, 101, 120, 97, 109, 112, 108, 101, 46, 111, 114, 103]⟩ : ByteArray) (⟨#[101, 120, 97, 109, 112, 108, 101, 46, 111, 114, 103]⟩ : ByteArray) t167 _ ?side1 A12.out).mono ?_); (case side1 => refine Ext.G.step ?_ hG_; repeat (first | (with_reducible first | exact HB.out | apply below_alloc | apply pw_below_drewN | apply below_drew1) | exact HB.out)); rintro e w16 ⟨rfl, hb⟩; have n0_ := Aside0.mk (below_step (by repeat (first | (with_reducible first | exact HB.out | apply below_alloc | apply pw_below_drewN | apply below_drew1) | exact HB.out)) hb); clear HB; have HB := n0_; clear n0_; (try clear hb); (try clear hb2); (try clear hk); (try clear hi)))
        go_ret
        exact ⟨by first | rfl | (simp [errW_none, errW_some] <;> rfl) | (simp [*, errW_none, errW_some] <;> rfl), by repeat (first | (with_reducible first | exact HB.out | apply below_alloc | apply pw_below_drewN | apply below_drew1) | exact HB.out)⟩
  · replace c2 := Bool.eq_false_iff.mpr c2
    subst c2
    have H1 : (some false) = some r := by rw [if_neg (show ¬ (false = true) by decide)] at H; exact H
    clear H
    have H := H1
    clear H1
    obtain rfl := Option.some.inj H
    go_enter Tryd.func10, Tryd.ntmps10
    go_wp2_with (first | ((with_reducible refine gate_callee (f := 28) rfl ?_); refine goesL_ (some 1) rfl rfl Tryd.func28 (by kernel_rfl) rfl #[.string (⟨#[77, 97, 105, 108, 46, 69, 120, 97, 109, 112, 108, 101, 46, 111, 114, 103]⟩ : ByteArray), .string (⟨#[101, 120, 97, 109, 112, 108, 101, 46, 111, 114, 103]⟩ : ByteArray)] rfl (by (try simp only [List.map_toArray, List.map_cons, List.map_nil]); first | done | rfl | (simp only [List.length_drop, List.length_take]; rfl)) ?_; (with_reducible refine (host_DNSWithin.calls k (⟨#[77, 97, 105, 108, 46, 69, 120, 97, 109, 112, 108, 101, 46, 111, 114, 103]⟩ : ByteArray) (⟨#[101, 120, 97, 109, 112, 108, 101, 46, 111, 114, 103]⟩ : ByteArray) false _ ?side1 A1.out).mono ?_); (case side1 => refine Ext.G.step ?_ hG_; repeat (first | (with_reducible first | exact HB.out | apply below_alloc | apply pw_below_drewN | apply below_drew1) | exact HB.out)); rintro e w17 ⟨rfl, hb⟩; refine ⟨_, rfl, ?_⟩; have n0_ := Aside0.mk (below_step (by repeat (first | (with_reducible first | exact HB.out | apply below_alloc | apply pw_below_drewN | apply below_drew1) | exact HB.out)) hb); clear HB; have HB := n0_; clear n0_; (try clear hb); (try clear hb2); (try clear hk); (try clear hi)))
    go_ret
    exact ⟨by first | rfl | (simp [errW_none, errW_some] <;> rfl) | (simp [*, errW_none, errW_some] <;> rfl), by repeat (first | (with_reducible first | exact HB.out | apply below_alloc | apply pw_below_drewN | apply below_drew1) | exact HB.out)⟩

/-! ### certpathlaw08_pieces: function 11 -/
def certpathlaw08_pieces.l0 : Nat → List Int → ByteArray → Int → Option (ByteArray)
  | 0, _, _, _ => none
  | k + 1, x0, x3, x4 => if x4 < (x0.length : Int) then (if x4 < 24 then ((some (([(⟨#[97]⟩ : ByteArray), (⟨#[66]⟩ : ByteArray), (⟨#[111, 114, 103]⟩ : ByteArray), (⟨#[101, 120, 97, 109, 112, 108, 101]⟩ : ByteArray), (⟨#[69, 88, 65, 77, 80, 76, 69]⟩ : ByteArray), (⟨#[46]⟩ : ByteArray), (⟨#[46]⟩ : ByteArray), (⟨#[46]⟩ : ByteArray), (⟨#[45]⟩ : ByteArray), (⟨#[42]⟩ : ByteArray), (⟨#[42, 46]⟩ : ByteArray), (⟨#[64]⟩ : ByteArray), (⟨#[64]⟩ : ByteArray), (⟨#[97, 110, 110]⟩ : ByteArray), (⟨#[97, 39, 98]⟩ : ByteArray), (⟨#[123]⟩ : ByteArray), (⟨#[48]⟩ : ByteArray), (⟨#[120, 45, 121]⟩ : ByteArray), (⟨#[46, 46]⟩ : ByteArray), (⟨#[95]⟩ : ByteArray), (⟨#[32]⟩ : ByteArray), (⟨#[97, 98, 99, 100, 101, 102, 103, 104, 105, 106, 107, 108, 109, 110, 111, 112, 113, 114, 115, 116, 117, 118, 119, 120, 121, 122, 97, 98, 99, 100, 101, 102, 103, 104, 105, 106, 107, 108, 109, 110, 111, 112, 113, 114, 115, 116, 117, 118, 119, 120, 121, 122, 48, 49, 50, 51, 52, 53, 54, 55, 56, 57]⟩ : ByteArray)] : List ByteArray) : List ByteArray)).bind fun y168 => (if 0 ≤ x4 then (if 0 ≤ (Int.tmod (rd x0 x4) 22) then (if (Int.tmod (rd x0 x4) 22) < (y168.length : Int) then (if x3.size + (rdOf ByteArray.empty y168 (Int.tmod (rd x0 x4) 22)).size ≤ 9223372036854775807 then (certpathlaw08_pieces.l0 k x0 (x3 ++ (rdOf ByteArray.empty y168 (Int.tmod (rd x0 x4) 22))) (wrap64 (x4 + 1))) else (none)) else (none)) else (none)) else (none))) else (some x3)) else (some x3)
def certpathlaw08_pieces.f (k : Nat) (l0 : List Int) : Option (ByteArray) := certpathlaw08_pieces.l0 k l0 (⟨#[]⟩ : ByteArray) 0
theorem certpathlaw08_pieces.mono_l : ∀ k, (∀ y0 y1 y2, LeO (certpathlaw08_pieces.l0 k y0 y1 y2) (certpathlaw08_pieces.l0 (k + 1) y0 y1 y2))
  | 0 => fun _ _ _ r h => by simp [certpathlaw08_pieces.l0] at h
  | k + 1 => by
    have ih0 := certpathlaw08_pieces.mono_l k
    · intro y0 y1 y2
      unfold certpathlaw08_pieces.l0
      repeat' first
      | (with_reducible exact ih0 _ _ _)
      | (with_reducible exact LeO.refl _)
      | (with_reducible exact LeO.none _)
      | (with_reducible refine LeO.ite ?_ ?_)
      | (with_reducible refine LeO.bind ?_ (fun _ => ?_))
      | exact ih0 _ _ _
      | exact LeO.none _
      | refine LeO.ite ?_ ?_
      | refine LeO.bind ?_ (fun _ => ?_)
theorem certpathlaw08_pieces.mono : ∀ a0 k, LeO (certpathlaw08_pieces.f k a0) (certpathlaw08_pieces.f (k + 1) a0) := by
  intro a0 k
  have ih0 := certpathlaw08_pieces.mono_l k
  unfold certpathlaw08_pieces.f
  repeat' first
      | (with_reducible exact ih0 _ _ _)
      | (with_reducible exact LeO.refl _)
      | (with_reducible exact LeO.none _)
      | (with_reducible refine LeO.ite ?_ ?_)
      | (with_reducible refine LeO.bind ?_ (fun _ => ?_))
      | exact ih0 _ _ _
      | exact LeO.none _
      | refine LeO.ite ?_ ?_
      | refine LeO.bind ?_ (fun _ => ?_)
set_option maxHeartbeats 8000000 in
set_option maxRecDepth 100000 in
theorem certpathlaw08_pieces.calls (k : Nat) (A0 : Option Addr) (c0 : Nat) (l0 : List Int) (r : ByteArray) (w : World) (hG_ : Ext.G w) (hr0 : Kd.C (Kd.int .u8) w A0 l0.length l0) (hc0 : l0.length ≤ c0) (h : certpathlaw08_pieces.f k l0 = some r) :
    Calls Tryd.prog 11 #[.slice A0 l0.length c0] w fun e w' => e = .returned (.string r) ∧ Below w.heap.size w w' := by
  have HR0 := Aside0.mk hr0
  have HC0 := Aside0.mk hc0
  clear hr0 hc0
  have HB := Aside0.mk (Below.refl w.heap.size w)
  have H : (certpathlaw08_pieces.l0 k l0 (⟨#[]⟩ : ByteArray) 0) = some r := h
  clear h
  have H' := Aside0.mk H
  clear H
  go_enter Tryd.func11, Tryd.ntmps11
  go_wp2
  go_loopg [3, 4] k (fun kq v3 v4 w' => ∃ (x3_1 : ByteArray) (x4_1 : Int), v3 = .string x3_1 ∧ v4 = .int .i64 x4_1 ∧ Aside0 (certpathlaw08_pieces.l0 kq l0 x3_1 x4_1 = some r) ∧ Aside0 (kq ≤ k) ∧ Aside0 (Below w.heap.size w w'))
  case atStart => exact ⟨((⟨#[]⟩ : ByteArray)), (0), (by first | rfl | (simp; done) | (simp [*]; done)), (by first | rfl | (simp; done) | (simp [*]; done)), H', ⟨Nat.le_refl _⟩, ⟨by repeat (first | (with_reducible first | exact HB.out | apply below_alloc | apply pw_below_drewN | apply below_drew1) | exact HB.out)⟩⟩
  case round =>
    clear H'
    try clear c1
    obtain ⟨x3_1, x4_1, rfl, rfl, HA, HK1, HB⟩ := hrel
    cases gk with
    | zero => exact absurd HA.out (by simp [certpathlaw08_pieces.l0])
    | succ k1 =>
      have H := HA.out
      clear HA
      simp only [certpathlaw08_pieces.l0] at H
      by_cases c2 : x4_1 < (l0.length : Int)
      · rw [if_pos c2] at H
        have c2b0 : decide (x4_1 < (l0.length : Int)) = true := decide_eq_true c2
        clear c2
        by_cases c3 : x4_1 < 24
        · rw [if_pos c3] at H
          have c3b0 : decide (x4_1 < 24) = true := decide_eq_true c3
          clear c3
          obtain ⟨y168, hy168⟩ : ∃ y_ : List ByteArray, y_ = (([(⟨#[97]⟩ : ByteArray), (⟨#[66]⟩ : ByteArray), (⟨#[111, 114, 103]⟩ : ByteArray), (⟨#[101, 120, 97, 109, 112, 108, 101]⟩ : ByteArray), (⟨#[69, 88, 65, 77, 80, 76, 69]⟩ : ByteArray), (⟨#[46]⟩ : ByteArray), (⟨#[46]⟩ : ByteArray), (⟨#[46]⟩ : ByteArray), (⟨#[45]⟩ : ByteArray), (⟨#[42]⟩ : ByteArray), (⟨#[42, 46]⟩ : ByteArray), (⟨#[64]⟩ : ByteArray), (⟨#[64]⟩ : ByteArray), (⟨#[97, 110, 110]⟩ : ByteArray), (⟨#[97, 39, 98]⟩ : ByteArray), (⟨#[123]⟩ : ByteArray), (⟨#[48]⟩ : ByteArray), (⟨#[120, 45, 121]⟩ : ByteArray), (⟨#[46, 46]⟩ : ByteArray), (⟨#[95]⟩ : ByteArray), (⟨#[32]⟩ : ByteArray), (⟨#[97, 98, 99, 100, 101, 102, 103, 104, 105, 106, 107, 108, 109, 110, 111, 112, 113, 114, 115, 116, 117, 118, 119, 120, 121, 122, 97, 98, 99, 100, 101, 102, 103, 104, 105, 106, 107, 108, 109, 110, 111, 112, 113, 114, 115, 116, 117, 118, 119, 120, 121, 122, 48, 49, 50, 51, 52, 53, 54, 55, 56, 57]⟩ : ByteArray)] : List ByteArray)) := ⟨_, rfl⟩
          replace H : (if 0 ≤ x4_1 then (if 0 ≤ (Int.tmod (rd l0 x4_1) 22) then (if (Int.tmod (rd l0 x4_1) 22) < (y168.length : Int) then (if x3_1.size + (rdOf ByteArray.empty y168 (Int.tmod (rd l0 x4_1) 22)).size ≤ 9223372036854775807 then (certpathlaw08_pieces.l0 k1 l0 (x3_1 ++ (rdOf ByteArray.empty y168 (Int.tmod (rd l0 x4_1) 22))) (wrap64 (x4_1 + 1))) else (none)) else (none)) else (none)) else (none)) = some r := by first | (rw [hy168]; with_reducible exact H) | (have H2_ := (Option.bind_some _ _).symm.trans H; rw [hy168]; with_reducible exact H2_) | (have H2_ := (Option.bind_some _ _).symm.trans H; with_reducible exact H2_) | with_reducible exact H | (rw [hy168]; exact H) | exact H
          have Ny168 := Aside0.mk hy168
          clear hy168
          by_cases c4 : 0 ≤ x4_1
          · rw [if_pos c4] at H
            have c4b0 : decide (0 ≤ x4_1) = true := decide_eq_true c4
            clear c4
            obtain ⟨ji5, hji5⟩ : ∃ j_ : Int, (Int.tmod (rd l0 x4_1) 22) = j_ := ⟨_, rfl⟩
            replace H : (if 0 ≤ (ji5) then (if (ji5) < (y168.length : Int) then (if x3_1.size + (rdOf ByteArray.empty y168 (ji5)).size ≤ 9223372036854775807 then (certpathlaw08_pieces.l0 k1 l0 (x3_1 ++ (rdOf ByteArray.empty y168 (ji5))) (wrap64 (x4_1 + 1))) else (none)) else (none)) else (none)) = some r := by first | (rw [hji5] at H; exact H) | (simp only [hji5] at H ⊢; exact H)
            by_cases c6 : 0 ≤ (ji5)
            · rw [if_pos c6] at H
              have c6b0 : decide (0 ≤ (ji5)) = true := decide_eq_true c6
              clear c6
              by_cases c7 : (ji5) < (y168.length : Int)
              · rw [if_pos c7] at H
                have c7b0 : decide ((ji5) < (y168.length : Int)) = true := decide_eq_true c7
                clear c7
                by_cases c8 : x3_1.size + (rdOf ByteArray.empty y168 (ji5)).size ≤ 9223372036854775807
                · rw [if_pos c8] at H
                  have c8b0 := eq_true c8
                  have c8b1 : decide (x3_1.size + (rdOf ByteArray.empty y168 (ji5)).size ≤ 9223372036854775807) = true := decide_eq_true c8
                  try have c8b2 : (9223372036854775807 < x3_1.size + (rdOf ByteArray.empty y168 (ji5)).size) = False := eq_false (Nat.not_lt.2 c8)
                  have H' := Aside0.mk H
                  clear H
                  go_wp2_with (first | ((with_reducible refine gate_dst (N := 16) rfl ?_); refine Kd.R_lit Kd.string _ 9 ?hg (N := 16) ?hd (xs := ([(⟨#[97]⟩ : ByteArray), (⟨#[66]⟩ : ByteArray), (⟨#[111, 114, 103]⟩ : ByteArray), (⟨#[101, 120, 97, 109, 112, 108, 101]⟩ : ByteArray), (⟨#[69, 88, 65, 77, 80, 76, 69]⟩ : ByteArray), (⟨#[46]⟩ : ByteArray), (⟨#[46]⟩ : ByteArray), (⟨#[46]⟩ : ByteArray), (⟨#[45]⟩ : ByteArray), (⟨#[42]⟩ : ByteArray), (⟨#[42, 46]⟩ : ByteArray), (⟨#[64]⟩ : ByteArray), (⟨#[64]⟩ : ByteArray), (⟨#[97, 110, 110]⟩ : ByteArray), (⟨#[97, 39, 98]⟩ : ByteArray), (⟨#[123]⟩ : ByteArray), (⟨#[48]⟩ : ByteArray), (⟨#[120, 45, 121]⟩ : ByteArray), (⟨#[46, 46]⟩ : ByteArray), (⟨#[95]⟩ : ByteArray), (⟨#[32]⟩ : ByteArray), (⟨#[97, 98, 99, 100, 101, 102, 103, 104, 105, 106, 107, 108, 109, 110, 111, 112, 113, 114, 115, 116, 117, 118, 119, 120, 121, 122, 97, 98, 99, 100, 101, 102, 103, 104, 105, 106, 107, 108, 109, 110, 111, 112, 113, 114, 115, 116, 117, 118, 119, 120, 121, 122, 48, 49, 50, 51, 52, 53, 54, 55, 56, 57]⟩ : ByteArray)] : List ByteArray)) (inner := [.string (⟨#[97]⟩ : ByteArray), .string (⟨#[66]⟩ : ByteArray), .string (⟨#[111, 114, 103]⟩ : ByteArray), .string (⟨#[101, 120, 97, 109, 112, 108, 101]⟩ : ByteArray), .string (⟨#[69, 88, 65, 77, 80, 76, 69]⟩ : ByteArray), .string (⟨#[46]⟩ : ByteArray), .string (⟨#[46]⟩ : ByteArray), .string (⟨#[46]⟩ : ByteArray), .string (⟨#[45]⟩ : ByteArray), .string (⟨#[42]⟩ : ByteArray), .string (⟨#[42, 46]⟩ : ByteArray), .string (⟨#[64]⟩ : ByteArray), .string (⟨#[64]⟩ : ByteArray), .string (⟨#[97, 110, 110]⟩ : ByteArray), .string (⟨#[97, 39, 98]⟩ : ByteArray), .string (⟨#[123]⟩ : ByteArray), .string (⟨#[48]⟩ : ByteArray), .string (⟨#[120, 45, 121]⟩ : ByteArray), .string (⟨#[46, 46]⟩ : ByteArray), .string (⟨#[95]⟩ : ByteArray), .string (⟨#[32]⟩ : ByteArray), .string (⟨#[97, 98, 99, 100, 101, 102, 103, 104, 105, 106, 107, 108, 109, 110, 111, 112, 113, 114, 115, 116, 117, 118, 119, 120, 121, 122, 97, 98, 99, 100, 101, 102, 103, 104, 105, 106, 107, 108, 109, 110, 111, 112, 113, 114, 115, 116, 117, 118, 119, 120, 121, 122, 48, 49, 50, 51, 52, 53, 54, 55, 56, 57]⟩ : ByteArray)]) (ok := fun _ => True) (okp := fun _ => True) ?hr ?hp (fun _ hk => hk) trivial (Below.refl _ _) (Nat.le_refl _) (by simp) ?_; (case hd => rfl); (case hg => rfl); (case hr => first | (go_simp; done) | (go_simp; rfl)); (case hp => exact (Reps.one (show Kd.M Kd.string _ _ _ (⟨#[97]⟩ : ByteArray) [.string (⟨#[97]⟩ : ByteArray)] from rfl) (Reps.one (show Kd.M Kd.string _ _ _ (⟨#[66]⟩ : ByteArray) [.string (⟨#[66]⟩ : ByteArray)] from rfl) (Reps.one (show Kd.M Kd.string _ _ _ (⟨#[111, 114, 103]⟩ : ByteArray) [.string (⟨#[111, 114, 103]⟩ : ByteArray)] from rfl) (Reps.one (show Kd.M Kd.string _ _ _ (⟨#[101, 120, 97, 109, 112, 108, 101]⟩ : ByteArray) [.string (⟨#[101, 120, 97, 109, 112, 108, 101]⟩ : ByteArray)] from rfl) (Reps.one (show Kd.M Kd.string _ _ _ (⟨#[69, 88, 65, 77, 80, 76, 69]⟩ : ByteArray) [.string (⟨#[69, 88, 65, 77, 80, 76, 69]⟩ : ByteArray)] from rfl) (Reps.one (show Kd.M Kd.string _ _ _ (⟨#[46]⟩ : ByteArray) [.string (⟨#[46]⟩ : ByteArray)] from rfl) (Reps.one (show Kd.M Kd.string _ _ _ (⟨#[46]⟩ : ByteArray) [.string (⟨#[46]⟩ : ByteArray)] from rfl) (Reps.one (show Kd.M Kd.string _ _ _ (⟨#[46]⟩ : ByteArray) [.string (⟨#[46]⟩ : ByteArray)] from rfl) (Reps.one (show Kd.M Kd.string _ _ _ (⟨#[45]⟩ : ByteArray) [.string (⟨#[45]⟩ : ByteArray)] from rfl) (Reps.one (show Kd.M Kd.string _ _ _ (⟨#[42]⟩ : ByteArray) [.string (⟨#[42]⟩ : ByteArray)] from rfl) (Reps.one (show Kd.M Kd.string _ _ _ (⟨#[42, 46]⟩ : ByteArray) [.string (⟨#[42, 46]⟩ : ByteArray)] from rfl) (Reps.one (show Kd.M Kd.string _ _ _ (⟨#[64]⟩ : ByteArray) [.string (⟨#[64]⟩ : ByteArray)] from rfl) (Reps.one (show Kd.M Kd.string _ _ _ (⟨#[64]⟩ : ByteArray) [.string (⟨#[64]⟩ : ByteArray)] from rfl) (Reps.one (show Kd.M Kd.string _ _ _ (⟨#[97, 110, 110]⟩ : ByteArray) [.string (⟨#[97, 110, 110]⟩ : ByteArray)] from rfl) (Reps.one (show Kd.M Kd.string _ _ _ (⟨#[97, 39, 98]⟩ : ByteArray) [.string (⟨#[97, 39, 98]⟩ : ByteArray)] from rfl) (Reps.one (show Kd.M Kd.string _ _ _ (⟨#[123]⟩ : ByteArray) [.string (⟨#[123]⟩ : ByteArray)] from rfl) (Reps.one (show Kd.M Kd.string _ _ _ (⟨#[48]⟩ : ByteArray) [.string (⟨#[48]⟩ : ByteArray)] from rfl) (Reps.one (show Kd.M Kd.string _ _ _ (⟨#[120, 45, 121]⟩ : ByteArray) [.string (⟨#[120, 45, 121]⟩ : ByteArray)] from rfl) (Reps.one (show Kd.M Kd.string _ _ _ (⟨#[46, 46]⟩ : ByteArray) [.string (⟨#[46, 46]⟩ : ByteArray)] from rfl) (Reps.one (show Kd.M Kd.string _ _ _ (⟨#[95]⟩ : ByteArray) [.string (⟨#[95]⟩ : ByteArray)] from rfl) (Reps.one (show Kd.M Kd.string _ _ _ (⟨#[32]⟩ : ByteArray) [.string (⟨#[32]⟩ : ByteArray)] from rfl) (Reps.one (show Kd.M Kd.string _ _ _ (⟨#[97, 98, 99, 100, 101, 102, 103, 104, 105, 106, 107, 108, 109, 110, 111, 112, 113, 114, 115, 116, 117, 118, 119, 120, 121, 122, 97, 98, 99, 100, 101, 102, 103, 104, 105, 106, 107, 108, 109, 110, 111, 112, 113, 114, 115, 116, 117, 118, 119, 120, 121, 122, 48, 49, 50, 51, 52, 53, 54, 55, 56, 57]⟩ : ByteArray) [.string (⟨#[97, 98, 99, 100, 101, 102, 103, 104, 105, 106, 107, 108, 109, 110, 111, 112, 113, 114, 115, 116, 117, 118, 119, 120, 121, 122, 97, 98, 99, 100, 101, 102, 103, 104, 105, 106, 107, 108, 109, 110, 111, 112, 113, 114, 115, 116, 117, 118, 119, 120, 121, 122, 48, 49, 50, 51, 52, 53, 54, 55, 56, 57]⟩ : ByteArray)] from rfl) (Reps.none _ _)))))))))))))))))))))))); intro v169 w9 ho10 hb hg_ hnew_; clear hg_ hnew_; (first | rw [← Ny168.out] at ho10 | (simp only [Int.reduceToNat] at ho10; rw [← Ny168.out] at ho10)); have n0_ := Aside0.mk (Kd.R_lower ho10 (below_size (by repeat (first | (with_reducible first | exact HB.out | apply below_alloc | apply pw_below_drewN | apply below_drew1) | exact HB.out)))); have n1_ := Aside0.mk (below_step (by repeat (first | (with_reducible first | exact HB.out | apply below_alloc | apply pw_below_drewN | apply below_drew1) | exact HB.out)) hb); clear HB; have HO170 := n0_; have HB := n1_; clear n0_ n1_; clear hb ho10; have p171 : 0 ≤ (x4_1 : Int) := of_decide_eq_true (by first | (with_reducible assumption) | assumption); have q171 : x4_1 < (l0.length : Int) := of_decide_eq_true (by first | (with_reducible assumption) | assumption); obtain ⟨ad171, e171, hx171_0⟩ := Kd.at_int HR0.out x4_1 p171 q171; cases e171; replace hx171_0 := (HB.out.cell (World.block_lt_of_cell? w _ hx171_0)).trans hx171_0; replace p171 := eq_true p171; replace q171 := eq_true q171; obtain ⟨Ao11, co11, eo11⟩ := Kd.R_slice HO170.out; subst eo11; have p172 : 0 ≤ ((ji5) : Int) := of_decide_eq_true (by first | (with_reducible assumption) | assumption); have q172 : (ji5) < (y168.length : Int) := of_decide_eq_true (by first | (with_reducible assumption) | assumption); obtain ⟨ad172, e172, hx172_0⟩ := Kd.at_string (Kd.R_reads' HO170.out).2.2 (ji5) p172 q172; cases e172; replace p172 := eq_true p172; replace q172 := eq_true q172))
                  go_roundg k1
                  case measure => have := HK1.out; omega
                  case rel => exact ⟨(x3_1 ++ (rdOf ByteArray.empty y168 (ji5))), (wrap64 (x4_1 + 1)), (by first | rfl | (simp; done) | (simp only [← hji5] <;> (first | rfl | simp)) | (simp [*]; done)), (by first | rfl | (simp; done) | (simp [*]; done)), H', ⟨by have := HK1.out; omega⟩, ⟨by repeat (first | (with_reducible first | exact HB.out | apply below_alloc | apply pw_below_drewN | apply below_drew1) | exact HB.out)⟩⟩
                · rw [if_neg c8] at H
                  exact absurd H (by simp)
              · rw [if_neg c7] at H
                exact absurd H (by simp)
            · rw [if_neg c6] at H
              exact absurd H (by simp)
          · rw [if_neg c4] at H
            exact absurd H (by simp)
        · rw [if_neg c3] at H
          have c3b0 : decide (x4_1 < 24) = false := decide_eq_false c3
          clear c3
          obtain rfl := Option.some.inj H
          go_wp2
          go_ret
          exact ⟨by first | rfl | (simp [errW_none, errW_some] <;> rfl) | (simp [*, errW_none, errW_some] <;> rfl), by repeat (first | (with_reducible first | exact HB.out | apply below_alloc | apply pw_below_drewN | apply below_drew1) | exact HB.out)⟩
      · rw [if_neg c2] at H
        have c2b0 : decide (x4_1 < (l0.length : Int)) = false := decide_eq_false c2
        clear c2
        obtain rfl := Option.some.inj H
        go_wp2
        go_ret
        exact ⟨by first | rfl | (simp [errW_none, errW_some] <;> rfl) | (simp [*, errW_none, errW_some] <;> rfl), by repeat (first | (with_reducible first | exact HB.out | apply below_alloc | apply pw_below_drewN | apply below_drew1) | exact HB.out)⟩

end Go.Proofs.YtegmenlonpgnpaaDoor.Q
