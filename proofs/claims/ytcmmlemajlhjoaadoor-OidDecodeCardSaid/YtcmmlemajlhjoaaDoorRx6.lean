-- Written by a program of this session (wip/prn.py) out of the translation, for the seat YtcmmlemajlhjoaaDoor. Not trusted: Lean checks it.
import Derived.Test.YtcmmlemajlhjoaaDoorRx0
import Derived.Test.YtcmmlemajlhjoaaDoorRx3
import Derived.Test.YtcmmlemajlhjoaaDoorRx5
namespace Go.Proofs.YtcmmlemajlhjoaaDoor.Q
open Go.RowKit Go.Proofs.YtcmmlemajlhjoaaDoorW.PrintWords Go.Proofs.YtcmmlemajlhjoaaDoorW.PrintLast Go.Proofs.YtcmmlemajlhjoaaDoorW.PrintMore
attribute [local go_sem] max2_int min2_int max_two min_two max_three min_three max_four min_four   -- for this text's walks alone
set_option linter.unusedVariables false
set_option linter.unusedSimpArgs false

/-! ### oid_Valid: function 12 -/
def oid_Valid.f (k : Nat) (a0 : ByteArray) : Option (Bool) := (oid_arcs.f k a0).bind fun t133 => (some ((t133.length : Int) != 0))
theorem oid_Valid.mono : ∀ a0 k, LeO (oid_Valid.f k a0) (oid_Valid.f (k + 1) a0) := by
  intro a0 k
  unfold oid_Valid.f
  repeat' first
      | (with_reducible exact oid_arcs.mono _ _)
      | (with_reducible exact LeO.refl _)
      | (with_reducible exact LeO.none _)
      | (with_reducible refine LeO.ite ?_ ?_)
      | (with_reducible refine LeO.bind ?_ (fun _ => ?_))
      | exact oid_arcs.mono _ _
      | exact LeO.none _
      | refine LeO.ite ?_ ?_
      | refine LeO.bind ?_ (fun _ => ?_)
set_option maxHeartbeats 8000000 in
set_option maxRecDepth 100000 in
theorem oid_Valid.calls (k : Nat) (a0 : ByteArray) (r : Bool) (w : World) (hG_ : Ext.G w) (h : oid_Valid.f k a0 = some r) :
    Calls Tryd.prog 12 #[.string a0] w fun e w' => e = .returned (.bool r) ∧ Below w.heap.size w w' := by
  have HB := Aside0.mk (Below.refl w.heap.size w)
  have H : ((oid_arcs.f k a0).bind fun t133 => (some ((t133.length : Int) != 0))) = some r := h
  clear h
  replace H := Option.bind_eq_some_iff.mp H
  obtain ⟨t133, A20, H⟩ := H
  replace H : (some ((t133.length : Int) != 0)) = some r := H
  have A2 := Aside0.mk A20
  clear A20
  obtain rfl := Option.some.inj H
  go_enter Tryd.func12, Tryd.ntmps12
  go_wp2_with (first | ((with_reducible refine gate_callee (f := 21) rfl ?_); refine goesL_ (some 4) rfl rfl Tryd.func21 (by kernel_rfl) rfl #[.string a0] rfl (by (try simp only [List.map_toArray, List.map_cons, List.map_nil]); first | done | rfl | (simp only [List.length_drop, List.length_take]; rfl)) ?_; (with_reducible refine (oid_arcs.calls k a0 t133 _ ?side1 A2.out).mono ?_); (case side1 => refine Ext.G.step ?_ hG_; repeat (first | (with_reducible first | exact HB.out | apply below_alloc | apply pw_below_drewN | apply below_drew1) | exact HB.out)); rintro e w3 ⟨v134, rfl, ho0, hb⟩; have hE_t133 := Ext.nil_eql (P := Tryd.prog) (T := 39) Tryd.underlying39 ho0; have hF_t133 := Ext.nil_neq (P := Tryd.prog) (T := 39) Tryd.underlying39 ho0; have hK_t133 := Ext.nil_guard ho0; replace ho0 := Kd.R_mono ho0 (fun _ _ => trivial); refine ⟨_, rfl, ?_⟩; have n0_ := Aside0.mk (Kd.R_lower ho0 (below_size (by repeat (first | (with_reducible first | exact HB.out | apply below_alloc | apply pw_below_drewN | apply below_drew1) | exact HB.out)))); have n1_ := Aside0.mk (below_step (by repeat (first | (with_reducible first | exact HB.out | apply below_alloc | apply pw_below_drewN | apply below_drew1) | exact HB.out)) hb); clear HB; have HO135 := n0_; have HB := n1_; clear n0_ n1_; (try clear hb); (try clear hb2); (try clear hk); (try clear hi); (try clear ho0)))
  go_ret
  exact ⟨by first | rfl | (simp [errW_none, errW_some] <;> rfl) | (simp [*, errW_none, errW_some] <;> rfl), by repeat (first | (with_reducible first | exact HB.out | apply below_alloc | apply pw_below_drewN | apply below_drew1) | exact HB.out)⟩

/-! ### certpathlaw04_awake: function 8 -/
def certpathlaw04_awake.f (k : Nat)  : Option (Bool) := (oid_Encode.f k (⟨#[50, 46, 53, 46, 50, 57, 46, 49, 57]⟩ : ByteArray)).bind fun bt136 => (if bt136.2 = 0 then (if bt136.1.toList = ([85, 29, 19] : List UInt8) then ((oid_Valid.f k (⟨#[49, 46, 52, 48]⟩ : ByteArray)).bind fun t138 => (if t138 = true then (some false) else ((oid_Valid.f k (⟨#[50, 46, 52, 48]⟩ : ByteArray)).bind fun t139 => (some t139)))) else (some false)) else (some false))
theorem certpathlaw04_awake.mono : ∀ k, LeO (certpathlaw04_awake.f k ) (certpathlaw04_awake.f (k + 1) ) := by
  intro  k
  unfold certpathlaw04_awake.f
  repeat' first
      | (with_reducible exact oid_Encode.mono _ _)
      | (with_reducible exact oid_Valid.mono _ _)
      | (with_reducible exact LeO.refl _)
      | (with_reducible exact LeO.none _)
      | (with_reducible refine LeO.ite ?_ ?_)
      | (with_reducible refine LeO.bind ?_ (fun _ => ?_))
      | exact oid_Encode.mono _ _
      | exact oid_Valid.mono _ _
      | exact LeO.none _
      | refine LeO.ite ?_ ?_
      | refine LeO.bind ?_ (fun _ => ?_)
set_option maxHeartbeats 8000000 in
set_option maxRecDepth 100000 in
theorem certpathlaw04_awake.calls (k : Nat)  (r : Bool) (w : World) (hG_ : Ext.G w) (h : certpathlaw04_awake.f k  = some r) :
    Calls Tryd.prog 8 #[] w fun e w' => e = .returned (.bool r) ∧ Below w.heap.size w w' := by
  have HB := Aside0.mk (Below.refl w.heap.size w)
  have H : ((oid_Encode.f k (⟨#[50, 46, 53, 46, 50, 57, 46, 49, 57]⟩ : ByteArray)).bind fun bt136 => (if bt136.2 = 0 then (if bt136.1.toList = ([85, 29, 19] : List UInt8) then ((oid_Valid.f k (⟨#[49, 46, 52, 48]⟩ : ByteArray)).bind fun t138 => (if t138 = true then (some false) else ((oid_Valid.f k (⟨#[50, 46, 52, 48]⟩ : ByteArray)).bind fun t139 => (some t139)))) else (some false)) else (some false))) = some r := h
  clear h
  replace H := Option.bind_eq_some_iff.mp H
  obtain ⟨⟨t136, t137⟩, A10, H⟩ := H
  replace H : (if t137 = 0 then (if t136.toList = ([85, 29, 19] : List UInt8) then ((oid_Valid.f k (⟨#[49, 46, 52, 48]⟩ : ByteArray)).bind fun t138 => (if t138 = true then (some false) else ((oid_Valid.f k (⟨#[50, 46, 52, 48]⟩ : ByteArray)).bind fun t139 => (some t139)))) else (some false)) else (some false)) = some r := H
  have A1 := Aside0.mk A10
  clear A10
  by_cases c2 : t137 = 0
  · rw [if_pos c2] at H
    have c2b0 : (t137 == 0) = true := beq_iff_eq.mpr c2
    have c2b1 : (t137 != 0) = false := bne_eq_false_iff_eq.mpr c2
    clear c2
    by_cases c3 : t136.toList = ([85, 29, 19] : List UInt8)
    · rw [if_pos c3] at H
      have c3b0 : (t136.toList == ([85, 29, 19] : List UInt8)) = true := beq_iff_eq.mpr c3
      have c3b1 : (t136.toList != ([85, 29, 19] : List UInt8)) = false := bne_eq_false_iff_eq.mpr c3
      clear c3
      replace H := Option.bind_eq_some_iff.mp H
      obtain ⟨t138, A40, H⟩ := H
      replace H : (if t138 = true then (some false) else ((oid_Valid.f k (⟨#[50, 46, 52, 48]⟩ : ByteArray)).bind fun t139 => (some t139))) = some r := H
      have A4 := Aside0.mk A40
      clear A40
      by_cases c5 : t138 = true
      · subst c5
        have H1 : (some false) = some r := by rw [if_pos rfl] at H; exact H
        clear H
        have H := H1
        clear H1
        obtain rfl := Option.some.inj H
        go_enter Tryd.func8, Tryd.ntmps8
        go_wp2_with (first | ((with_reducible refine gate_callee (f := 10) rfl ?_); refine goesL_ (some 4) rfl rfl Tryd.func10 (by kernel_rfl) rfl #[.string (⟨#[50, 46, 53, 46, 50, 57, 46, 49, 57]⟩ : ByteArray)] rfl (by (try simp only [List.map_toArray, List.map_cons, List.map_nil]); first | done | rfl | (simp only [List.length_drop, List.length_take]; rfl)) ?_; (with_reducible refine (oid_Encode.calls k (⟨#[50, 46, 53, 46, 50, 57, 46, 49, 57]⟩ : ByteArray) t136 t137 _ ?side1 A1.out).mono ?_); (case side1 => refine Ext.G.step ?_ hG_; repeat (first | (with_reducible first | exact HB.out | apply below_alloc | apply pw_below_drewN | apply below_drew1) | exact HB.out)); rintro e w6 ⟨rfl, hb⟩; refine ⟨_, rfl, ?_⟩; have n0_ := Aside0.mk (below_step (by repeat (first | (with_reducible first | exact HB.out | apply below_alloc | apply pw_below_drewN | apply below_drew1) | exact HB.out)) hb); clear HB; have HB := n0_; clear n0_; (try clear hb); (try clear hb2); (try clear hk); (try clear hi)) | (go_at_call 12; (with_reducible refine (oid_Valid.calls k (⟨#[49, 46, 52, 48]⟩ : ByteArray) true _ ?side1 A4.out).mono ?_); (case side1 => refine Ext.G.step ?_ hG_; repeat (first | (with_reducible first | exact HB.out | apply below_alloc | apply pw_below_drewN | apply below_drew1) | exact HB.out)); rintro e w7 ⟨rfl, hb⟩; have n0_ := Aside0.mk (below_step (by repeat (first | (with_reducible first | exact HB.out | apply below_alloc | apply pw_below_drewN | apply below_drew1) | exact HB.out)) hb); clear HB; have HB := n0_; clear n0_; (try clear hb); (try clear hb2); (try clear hk); (try clear hi)))
        go_ret
        exact ⟨by first | rfl | (simp [errW_none, errW_some] <;> rfl) | (simp [*, errW_none, errW_some] <;> rfl), by repeat (first | (with_reducible first | exact HB.out | apply below_alloc | apply pw_below_drewN | apply below_drew1) | exact HB.out)⟩
      · replace c5 := Bool.eq_false_iff.mpr c5
        subst c5
        have H1 : ((oid_Valid.f k (⟨#[50, 46, 52, 48]⟩ : ByteArray)).bind fun t139 => (some t139)) = some r := by rw [if_neg (show ¬ (false = true) by decide)] at H; exact H
        clear H
        have H := H1
        clear H1
        replace H := Option.bind_eq_some_iff.mp H
        obtain ⟨t139, A80, H⟩ := H
        replace H : (some t139) = some r := H
        have A8 := Aside0.mk A80
        clear A80
        obtain rfl := Option.some.inj H
        go_enter Tryd.func8, Tryd.ntmps8
        go_wp2_with (first | ((with_reducible refine gate_callee (f := 10) rfl ?_); refine goesL_ (some 4) rfl rfl Tryd.func10 (by kernel_rfl) rfl #[.string (⟨#[50, 46, 53, 46, 50, 57, 46, 49, 57]⟩ : ByteArray)] rfl (by (try simp only [List.map_toArray, List.map_cons, List.map_nil]); first | done | rfl | (simp only [List.length_drop, List.length_take]; rfl)) ?_; (with_reducible refine (oid_Encode.calls k (⟨#[50, 46, 53, 46, 50, 57, 46, 49, 57]⟩ : ByteArray) t136 t137 _ ?side1 A1.out).mono ?_); (case side1 => refine Ext.G.step ?_ hG_; repeat (first | (with_reducible first | exact HB.out | apply below_alloc | apply pw_below_drewN | apply below_drew1) | exact HB.out)); rintro e w9 ⟨rfl, hb⟩; refine ⟨_, rfl, ?_⟩; have n0_ := Aside0.mk (below_step (by repeat (first | (with_reducible first | exact HB.out | apply below_alloc | apply pw_below_drewN | apply below_drew1) | exact HB.out)) hb); clear HB; have HB := n0_; clear n0_; (try clear hb); (try clear hb2); (try clear hk); (try clear hi)) | (go_at_call 12; (with_reducible refine (oid_Valid.calls k (⟨#[49, 46, 52, 48]⟩ : ByteArray) false _ ?side1 A4.out).mono ?_); (case side1 => refine Ext.G.step ?_ hG_; repeat (first | (with_reducible first | exact HB.out | apply below_alloc | apply pw_below_drewN | apply below_drew1) | exact HB.out)); rintro e w10 ⟨rfl, hb⟩; have n0_ := Aside0.mk (below_step (by repeat (first | (with_reducible first | exact HB.out | apply below_alloc | apply pw_below_drewN | apply below_drew1) | exact HB.out)) hb); clear HB; have HB := n0_; clear n0_; (try clear hb); (try clear hb2); (try clear hk); (try clear hi)) | (go_at_call 12; (with_reducible refine (oid_Valid.calls k (⟨#[50, 46, 52, 48]⟩ : ByteArray) t139 _ ?side1 A8.out).mono ?_); (case side1 => refine Ext.G.step ?_ hG_; repeat (first | (with_reducible first | exact HB.out | apply below_alloc | apply pw_below_drewN | apply below_drew1) | exact HB.out)); rintro e w11 ⟨rfl, hb⟩; have n0_ := Aside0.mk (below_step (by repeat (first | (with_reducible first | exact HB.out | apply below_alloc | apply pw_below_drewN | apply below_drew1) | exact HB.out)) hb); clear HB; have HB := n0_; clear n0_; (try clear hb); (try clear hb2); (try clear hk); (try clear hi)))
        go_ret
        exact ⟨by first | rfl | (simp [errW_none, errW_some] <;> rfl) | (simp [*, errW_none, errW_some] <;> rfl), by repeat (first | (with_reducible first | exact HB.out | apply below_alloc | apply pw_below_drewN | apply below_drew1) | exact HB.out)⟩
    · rw [if_neg c3] at H
      have c3b0 : (t136.toList == ([85, 29, 19] : List UInt8)) = false := beq_eq_false_iff_ne.mpr c3
      have c3b1 : (t136.toList != ([85, 29, 19] : List UInt8)) = true := bne_iff_ne.mpr c3
      obtain rfl := Option.some.inj H
      go_enter Tryd.func8, Tryd.ntmps8
      go_wp2_with (first | ((with_reducible refine gate_callee (f := 10) rfl ?_); refine goesL_ (some 4) rfl rfl Tryd.func10 (by kernel_rfl) rfl #[.string (⟨#[50, 46, 53, 46, 50, 57, 46, 49, 57]⟩ : ByteArray)] rfl (by (try simp only [List.map_toArray, List.map_cons, List.map_nil]); first | done | rfl | (simp only [List.length_drop, List.length_take]; rfl)) ?_; (with_reducible refine (oid_Encode.calls k (⟨#[50, 46, 53, 46, 50, 57, 46, 49, 57]⟩ : ByteArray) t136 t137 _ ?side1 A1.out).mono ?_); (case side1 => refine Ext.G.step ?_ hG_; repeat (first | (with_reducible first | exact HB.out | apply below_alloc | apply pw_below_drewN | apply below_drew1) | exact HB.out)); rintro e w12 ⟨rfl, hb⟩; refine ⟨_, rfl, ?_⟩; have n0_ := Aside0.mk (below_step (by repeat (first | (with_reducible first | exact HB.out | apply below_alloc | apply pw_below_drewN | apply below_drew1) | exact HB.out)) hb); clear HB; have HB := n0_; clear n0_; (try clear hb); (try clear hb2); (try clear hk); (try clear hi)))
      go_ret
      exact ⟨by first | rfl | (simp [errW_none, errW_some] <;> rfl) | (simp [*, errW_none, errW_some] <;> rfl), by repeat (first | (with_reducible first | exact HB.out | apply below_alloc | apply pw_below_drewN | apply below_drew1) | exact HB.out)⟩
  · rw [if_neg c2] at H
    have c2b0 : (t137 == 0) = false := beq_eq_false_iff_ne.mpr c2
    have c2b1 : (t137 != 0) = true := bne_iff_ne.mpr c2
    obtain rfl := Option.some.inj H
    go_enter Tryd.func8, Tryd.ntmps8
    go_wp2_with (first | ((with_reducible refine gate_callee (f := 10) rfl ?_); refine goesL_ (some 4) rfl rfl Tryd.func10 (by kernel_rfl) rfl #[.string (⟨#[50, 46, 53, 46, 50, 57, 46, 49, 57]⟩ : ByteArray)] rfl (by (try simp only [List.map_toArray, List.map_cons, List.map_nil]); first | done | rfl | (simp only [List.length_drop, List.length_take]; rfl)) ?_; (with_reducible refine (oid_Encode.calls k (⟨#[50, 46, 53, 46, 50, 57, 46, 49, 57]⟩ : ByteArray) t136 t137 _ ?side1 A1.out).mono ?_); (case side1 => refine Ext.G.step ?_ hG_; repeat (first | (with_reducible first | exact HB.out | apply below_alloc | apply pw_below_drewN | apply below_drew1) | exact HB.out)); rintro e w13 ⟨rfl, hb⟩; refine ⟨_, rfl, ?_⟩; have n0_ := Aside0.mk (below_step (by repeat (first | (with_reducible first | exact HB.out | apply below_alloc | apply pw_below_drewN | apply below_drew1) | exact HB.out)) hb); clear HB; have HB := n0_; clear n0_; (try clear hb); (try clear hb2); (try clear hk); (try clear hi)))
    go_ret
    exact ⟨by first | rfl | (simp [errW_none, errW_some] <;> rfl) | (simp [*, errW_none, errW_some] <;> rfl), by repeat (first | (with_reducible first | exact HB.out | apply below_alloc | apply pw_below_drewN | apply below_drew1) | exact HB.out)⟩

end Go.Proofs.YtcmmlemajlhjoaaDoor.Q
