-- Written by a program of this session (wip/prn.py) out of the translation, for the seat YtcmmlemajlhjoaaDoor. Not trusted: Lean checks it.
import Derived.Test.YtcmmlemajlhjoaaDoorRx0
import Derived.Test.YtcmmlemajlhjoaaDoorRx3
import Derived.Test.YtcmmlemajlhjoaaDoorRx4
namespace Go.Proofs.YtcmmlemajlhjoaaDoor.Q
open Go.RowKit Go.Proofs.YtcmmlemajlhjoaaDoorW.PrintWords Go.Proofs.YtcmmlemajlhjoaaDoorW.PrintLast Go.Proofs.YtcmmlemajlhjoaaDoorW.PrintMore
attribute [local go_sem] max2_int min2_int max_two min_two max_three min_three max_four min_four   -- for this text's walks alone
set_option linter.unusedVariables false
set_option linter.unusedSimpArgs false

/-! ### oid_Encode: function 10 -/
def oid_Encode.l0 : Nat → List Int → List Int → Int → Int → Option (ByteArray × Int)
  | 0, _, _, _, _ => none
  | k + 1, x5, x22, x23, x24 => if x24 < x23 then (if 0 ≤ x24 then (if x24 < (x22.length : Int) then ((oid_put.f k x5 (rd x22 x24)).bind fun t130 => (oid_Encode.l0 k t130 x22 x23 (wrap64 (x24 + 1)))) else (none)) else (none)) else (some (strOfNums x5, 0))
def oid_Encode.f (k : Nat) (a0 : ByteArray) : Option (ByteArray × Int) := (oid_arcs.f k a0).bind fun t118 => (if (t118.length : Int) = 0 then (some ((⟨#[]⟩ : ByteArray), 11)) else (if 0 < (t118.length : Int) then (if 1 < (t118.length : Int) then ((oid_put.f k ([] : List Int) (wrap64 ((wrap64 (40 * (rd t118 0))) + (rd t118 1)))).bind fun t123 => (if 2 ≤ (t118.length : Int) then ((some (t118.drop (2 : Int).toNat : List Int)).bind fun y126 => (oid_Encode.l0 k t123 y126 (y126.length : Int) 0)) else (none))) else (none)) else (none)))
theorem oid_Encode.mono_l : ∀ k, (∀ y0 y1 y2 y3, LeO (oid_Encode.l0 k y0 y1 y2 y3) (oid_Encode.l0 (k + 1) y0 y1 y2 y3))
  | 0 => fun _ _ _ _ r h => by simp [oid_Encode.l0] at h
  | k + 1 => by
    have ih0 := oid_Encode.mono_l k
    · intro y0 y1 y2 y3
      unfold oid_Encode.l0
      repeat' first
      | (with_reducible exact ih0 _ _ _ _)
      | (with_reducible exact oid_arcs.mono _ _)
      | (with_reducible exact oid_put.mono _ _ _)
      | (with_reducible exact LeO.refl _)
      | (with_reducible exact LeO.none _)
      | (with_reducible refine LeO.ite ?_ ?_)
      | (with_reducible refine LeO.bind ?_ (fun _ => ?_))
      | exact ih0 _ _ _ _
      | exact oid_arcs.mono _ _
      | exact oid_put.mono _ _ _
      | exact LeO.none _
      | refine LeO.ite ?_ ?_
      | refine LeO.bind ?_ (fun _ => ?_)
theorem oid_Encode.mono : ∀ a0 k, LeO (oid_Encode.f k a0) (oid_Encode.f (k + 1) a0) := by
  intro a0 k
  have ih0 := oid_Encode.mono_l k
  unfold oid_Encode.f
  repeat' first
      | (with_reducible exact ih0 _ _ _ _)
      | (with_reducible exact oid_arcs.mono _ _)
      | (with_reducible exact oid_put.mono _ _ _)
      | (with_reducible exact LeO.refl _)
      | (with_reducible exact LeO.none _)
      | (with_reducible refine LeO.ite ?_ ?_)
      | (with_reducible refine LeO.bind ?_ (fun _ => ?_))
      | exact ih0 _ _ _ _
      | exact oid_arcs.mono _ _
      | exact oid_put.mono _ _ _
      | exact LeO.none _
      | refine LeO.ite ?_ ?_
      | refine LeO.bind ?_ (fun _ => ?_)
def oid_Encode.T4 : Bool × List (List Nat × List Nat) := (true, [([], []), ([0], [0]), ([1], [1]), ([2], [2]), ([], []), ([4], [4]), ([5], [5]), ([3, 6], [3, 6]), ([7], [7]), ([8, 8, 0, 1, 2, 3, 4, 5, 6, 7, 8], [8])])
def oid_Encode.B4 : List Nat := [0, 1, 3, 7, 0, 16, 48, 127, 255, 511]
theorem oid_Encode.tab4 : rtab .any (opsOf Tryd.f10 4) = oid_Encode.T4 := by kernel_rfl
theorem oid_Encode.bits4 : waitsOk oid_Encode.T4.2 oid_Encode.B4 = true := by kernel_rfl
set_option maxHeartbeats 8000000 in
set_option maxRecDepth 100000 in
theorem oid_Encode.calls (k : Nat) (a0 : ByteArray) (r1 : ByteArray) (r2 : Int) (w : World) (hG_ : Ext.G w) (h : oid_Encode.f k a0 = some (r1, r2)) :
    Calls Tryd.prog 10 #[.string a0] w fun e w' => e = .returned (.tuple #[.string r1, .int .i64 r2]) ∧ Below w.heap.size w w' := by
  have HB := Aside0.mk (Below.refl w.heap.size w)
  have H : ((oid_arcs.f k a0).bind fun t118 => (if (t118.length : Int) = 0 then (some ((⟨#[]⟩ : ByteArray), 11)) else (if 0 < (t118.length : Int) then (if 1 < (t118.length : Int) then ((oid_put.f k ([] : List Int) (wrap64 ((wrap64 (40 * (rd t118 0))) + (rd t118 1)))).bind fun t123 => (if 2 ≤ (t118.length : Int) then ((some (t118.drop (2 : Int).toNat : List Int)).bind fun y126 => (oid_Encode.l0 k t123 y126 (y126.length : Int) 0)) else (none))) else (none)) else (none)))) = some (r1, r2) := h
  clear h
  replace H := Option.bind_eq_some_iff.mp H
  obtain ⟨t118, A20, H⟩ := H
  replace H : (if (t118.length : Int) = 0 then (some ((⟨#[]⟩ : ByteArray), 11)) else (if 0 < (t118.length : Int) then (if 1 < (t118.length : Int) then ((oid_put.f k ([] : List Int) (wrap64 ((wrap64 (40 * (rd t118 0))) + (rd t118 1)))).bind fun t123 => (if 2 ≤ (t118.length : Int) then ((some (t118.drop (2 : Int).toNat : List Int)).bind fun y126 => (oid_Encode.l0 k t123 y126 (y126.length : Int) 0)) else (none))) else (none)) else (none))) = some (r1, r2) := H
  have A2 := Aside0.mk A20
  clear A20
  by_cases c3 : (t118.length : Int) = 0
  · rw [if_pos c3] at H
    have c3b0 : ((t118.length : Int) == 0) = true := beq_iff_eq.mpr c3
    have c3b1 : ((t118.length : Int) != 0) = false := bne_eq_false_iff_eq.mpr c3
    clear c3
    simp only [Option.some.injEq, Prod.mk.injEq] at H
    obtain ⟨rfl, rfl⟩ := H
    go_enter Tryd.func10, Tryd.ntmps10
    go_wp2_with (first | ((with_reducible refine gate_callee (f := 21) rfl ?_); refine goesL_ (some 9) rfl rfl Tryd.func21 (by kernel_rfl) rfl #[.string a0] rfl (by (try simp only [List.map_toArray, List.map_cons, List.map_nil]); first | done | rfl | (simp only [List.length_drop, List.length_take]; rfl)) ?_; (with_reducible refine (oid_arcs.calls k a0 t118 _ ?side1 A2.out).mono ?_); (case side1 => refine Ext.G.step ?_ hG_; repeat (first | (with_reducible first | exact HB.out | apply below_alloc | apply pw_below_drewN | apply below_drew1) | exact HB.out)); rintro e w4 ⟨v119, rfl, ho0, hb⟩; have hE_t118 := Ext.nil_eql (P := Tryd.prog) (T := 39) Tryd.underlying39 ho0; have hF_t118 := Ext.nil_neq (P := Tryd.prog) (T := 39) Tryd.underlying39 ho0; have hK_t118 := Ext.nil_guard ho0; replace ho0 := Kd.R_mono ho0 (fun _ _ => trivial); refine ⟨_, rfl, ?_⟩; have n0_ := Aside0.mk (Kd.R_lower ho0 (below_size (by repeat (first | (with_reducible first | exact HB.out | apply below_alloc | apply pw_below_drewN | apply below_drew1) | exact HB.out)))); have n1_ := Aside0.mk (below_step (by repeat (first | (with_reducible first | exact HB.out | apply below_alloc | apply pw_below_drewN | apply below_drew1) | exact HB.out)) hb); clear HB; have HO120 := n0_; have HB := n1_; clear n0_ n1_; (try clear hb); (try clear hb2); (try clear hk); (try clear hi); (try clear ho0)))
    go_ret2
    exact ⟨by first | rfl | (simp [errW_none, errW_some] <;> rfl) | (simp [*, errW_none, errW_some] <;> rfl), by repeat (first | (with_reducible first | exact HB.out | apply below_alloc | apply pw_below_drewN | apply below_drew1) | exact HB.out)⟩
  · rw [if_neg c3] at H
    have c3b0 : ((t118.length : Int) == 0) = false := beq_eq_false_iff_ne.mpr c3
    have c3b1 : ((t118.length : Int) != 0) = true := bne_iff_ne.mpr c3
    have c3b2 : ¬ (t118 = []) := fun h_ => c3 (by rw [h_]; rfl)
    by_cases c5 : 0 < (t118.length : Int)
    · rw [if_pos c5] at H
      have c5b0 : decide (0 < (t118.length : Int)) = true := decide_eq_true c5
      have c5b1 : decide (0 < t118.length) = true := decide_eq_true (by omega)
      clear c5
      by_cases c6 : 1 < (t118.length : Int)
      · rw [if_pos c6] at H
        have c6b0 : decide (1 < (t118.length : Int)) = true := decide_eq_true c6
        have c6b1 : decide (1 < t118.length) = true := decide_eq_true (by omega)
        clear c6
        replace H := Option.bind_eq_some_iff.mp H
        obtain ⟨t123, A70, H⟩ := H
        replace H : (if 2 ≤ (t118.length : Int) then ((some (t118.drop (2 : Int).toNat : List Int)).bind fun y126 => (oid_Encode.l0 k t123 y126 (y126.length : Int) 0)) else (none)) = some (r1, r2) := H
        have A7 := Aside0.mk A70
        clear A70
        by_cases c8 : 2 ≤ (t118.length : Int)
        · rw [if_pos c8] at H
          have c8b0 := eq_true c8
          have c8b1 : decide (2 ≤ (t118.length : Int)) = true := decide_eq_true c8
          clear c8
          obtain ⟨y126, hy126⟩ : ∃ y_ : List Int, y_ = (t118.drop (2 : Int).toNat) := ⟨_, rfl⟩
          replace H : (oid_Encode.l0 k t123 y126 (y126.length : Int) 0) = some (r1, r2) := by first | (rw [hy126]; with_reducible exact H) | (have H2_ := (Option.bind_some _ _).symm.trans H; rw [hy126]; with_reducible exact H2_) | (have H2_ := (Option.bind_some _ _).symm.trans H; with_reducible exact H2_) | with_reducible exact H | (rw [hy126]; exact H) | exact H
          have Ny126 := Aside0.mk hy126
          clear hy126
          have H' := Aside0.mk H
          clear H
          go_enter Tryd.func10, Tryd.ntmps10
          try go_wp2_with (first | ((with_reducible refine gate_callee (f := 21) rfl ?_); refine goesL_ (some 9) rfl rfl Tryd.func21 (by kernel_rfl) rfl #[.string a0] rfl (by (try simp only [List.map_toArray, List.map_cons, List.map_nil]); first | done | rfl | (simp only [List.length_drop, List.length_take]; rfl)) ?_; (with_reducible refine (oid_arcs.calls k a0 t118 _ ?side1 A2.out).mono ?_); (case side1 => refine Ext.G.step ?_ hG_; repeat (first | (with_reducible first | exact HB.out | apply below_alloc | apply pw_below_drewN | apply below_drew1) | exact HB.out)); rintro e w9 ⟨v119, rfl, ho0, hb⟩; have hE_t118 := Ext.nil_eql (P := Tryd.prog) (T := 39) Tryd.underlying39 ho0; have hF_t118 := Ext.nil_neq (P := Tryd.prog) (T := 39) Tryd.underlying39 ho0; have hK_t118 := Ext.nil_guard ho0; replace ho0 := Kd.R_mono ho0 (fun _ _ => trivial); refine ⟨_, rfl, ?_⟩; have n0_ := Aside0.mk (Kd.R_lower ho0 (below_size (by repeat (first | (with_reducible first | exact HB.out | apply below_alloc | apply pw_below_drewN | apply below_drew1) | exact HB.out)))); have n1_ := Aside0.mk (below_step (by repeat (first | (with_reducible first | exact HB.out | apply below_alloc | apply pw_below_drewN | apply below_drew1) | exact HB.out)) hb); clear HB; have HO120 := n0_; have HB := n1_; clear n0_ n1_; (try clear hb); (try clear hb2); (try clear hk); (try clear hi); (try clear ho0)))
          have n0_ := Aside0.mk (Kd.R_drew HO120.out)
          have n1_ := Aside0.mk (below_drew1 HB.out)
          clear HO120
          clear HB
          have HO120 := n0_
          have HB := n1_
          clear n0_ n1_
          obtain ⟨Ao11, co11, eo11⟩ := Kd.R_slice HO120.out
          (first | subst eo11 | (injection eo11 with f1_ f2_ f3_; have f4_ := f1_.symm; have f5_ := f3_.symm; clear f1_ f2_ f3_; subst f4_; subst f5_))
          have p121 : 0 ≤ (0 : Int) := (by omega)
          have q121 : 0 < (t118.length : Int) := of_decide_eq_true (by first | (with_reducible assumption) | assumption)
          obtain ⟨ad121, e121, hx121_0⟩ := Kd.at_int (Kd.R_reads' HO120.out).2.2 0 p121 q121
          cases e121
          have qi121 : (0 < t118.length) = True := eq_true (by omega)
          (try rw [show ((0 : Int)).toNat = 0 from rfl] at hx121_0)
          (try rw [Addr.add_zero'] at hx121_0)
          replace p121 := eq_true p121
          replace q121 := eq_true q121
          have p122 : 0 ≤ (1 : Int) := (by omega)
          have q122 : 1 < (t118.length : Int) := of_decide_eq_true (by first | (with_reducible assumption) | assumption)
          obtain ⟨ad122, e122, hx122_0⟩ := Kd.at_int (Kd.R_reads' HO120.out).2.2 1 p122 q122
          obtain rfl : ad121 = ad122 := (by injection e122)
          (try simp only [show (1 : Int).toNat = 1 from rfl, Nat.reduceMul, Nat.reduceEqDiff, Go.Addr.add, ↓reduceIte] at hx122_0)
          have qi122 : (1 < t118.length) = True := eq_true (by omega)
          (try rw [show ((1 : Int)).toNat = 1 from rfl] at hx122_0)
          replace p122 := eq_true p122
          replace q122 := eq_true q122
          refine start_ (n := 10) (S := fun w' => w'.cell? ad121 = some (.int .i64 (rd t118 0)) ∧ w'.cell? ⟨ad121.block, ad121.off + 1, none⟩ = some (.int .i64 (rd t118 1))) (ds := []) #[false, false, false, false, false, false, false, false, false, false] (by kernel_rfl) rfl rfl ⟨hx121_0, hx122_0⟩ (fun hHeld => ?_); refine with_tabW oid_Encode.tab4 oid_Encode.bits4 (fun HT_ HW_ => ?_)
          generalize w9.drew = w10 at HO120 HB hx121_0 hx122_0 hHeld ⊢
          refine pure_ (i := 0) (N := some 12) (v := ?_) (a' := ?_) #[true, false, false, false, false, false, false, false, false, false] rfl rfl (any_of HT_.out (by kernel_rfl)) (fun _ _ _ h => h) (Or.inl ⟨by rfl, ?_⟩) ?_ ?_
          rotate_left
          · intro w'
            go_simp
            with_reducible rfl
          rotate_left
          · simp only [Act.put, List.setIfInBounds_toArray, List.set_cons_zero, List.set_cons_succ, i64_w, i32_w]
            rfl
          refine pure_ (i := 1) (N := some 13) (v := ?_) (a' := ?_) #[true, true, false, false, false, false, false, false, false, false] rfl rfl (any_of HT_.out (by kernel_rfl)) (fun _ _ _ h => h) (Or.inl ⟨by rfl, ?_⟩) ?_ ?_
          rotate_left
          · intro w'
            go_simp
            with_reducible rfl
          rotate_left
          · simp only [Act.put, List.setIfInBounds_toArray, List.set_cons_zero, List.set_cons_succ, i64_w, i32_w]
            rfl
          refine pure_ (i := 4) (N := some 16) (v := ?_) (a' := ?_) #[true, true, false, false, true, false, false, false, false, false] rfl rfl (any_of HT_.out (by kernel_rfl)) (fun _ _ _ h => h) (Or.inl ⟨by rfl, ?_⟩) ?_ ?_
          rotate_left
          · intro w'
            go_simp
            with_reducible rfl
          rotate_left
          · simp only [Act.put, List.setIfInBounds_toArray, List.set_cons_zero, List.set_cons_succ, i64_w, i32_w]
            rfl
          refine pure_ (i := 5) (N := some 17) (v := ?_) (a' := ?_) #[true, true, false, false, true, true, false, false, false, false] rfl rfl (any_of HT_.out (by kernel_rfl)) (fun _ _ _ h => h) (Or.inl ⟨by rfl, ?_⟩) ?_ ?_
          rotate_left
          · intro w'
            go_simp
            with_reducible rfl
          rotate_left
          · simp only [Act.put, List.setIfInBounds_toArray, List.set_cons_zero, List.set_cons_succ, i64_w, i32_w]
            rfl
          refine take_ (i := 2) (N := some 14) (v := ?_) (a' := ?_) #[true, true, true, false, true, true, false, false, false, false] rfl rfl (take_ofW HT_.out HW_.out (by kernel_rfl)) (fun _ _ _ h => h) (Or.inl ⟨by rfl, ?_⟩) hHeld ?_ ?_
          rotate_left
          · rintro w' ⟨s0, s1⟩
            go_simp
            with_reducible rfl
          rotate_left
          · simp only [Act.put, List.setIfInBounds_toArray, List.set_cons_zero, List.set_cons_succ, i64_w, i32_w]
            rfl
          refine pure_ (i := 3) (N := some 15) (v := ?_) (a' := ?_) #[true, true, true, true, true, true, false, false, false, false] rfl rfl (any_of HT_.out (by kernel_rfl)) (fun _ _ _ h => h) (Or.inl ⟨by rfl, ?_⟩) ?_ ?_
          rotate_left
          · intro w'
            go_simp
            with_reducible rfl
          rotate_left
          · simp only [Act.put, List.setIfInBounds_toArray, List.set_cons_zero, List.set_cons_succ, i64_w, i32_w]
            rfl
          refine take_ (i := 6) (N := some 18) (v := ?_) (a' := ?_) #[true, true, true, true, true, true, true, false, false, false] rfl rfl (take_ofW HT_.out HW_.out (by kernel_rfl)) (fun _ _ _ h => h) (Or.inl ⟨by rfl, ?_⟩) hHeld ?_ ?_
          rotate_left
          · rintro w' ⟨s0, s1⟩
            go_simp
            with_reducible rfl
          rotate_left
          · simp only [Act.put, List.setIfInBounds_toArray, List.set_cons_zero, List.set_cons_succ, i64_w, i32_w]
            rfl
          refine pure_ (i := 7) (N := some 19) (v := ?_) (a' := ?_) #[true, true, true, true, true, true, true, true, false, false] rfl rfl (any_of HT_.out (by kernel_rfl)) (fun _ _ _ h => h) (Or.inl ⟨by rfl, ?_⟩) ?_ ?_
          rotate_left
          · intro w'
            go_simp
            with_reducible rfl
          rotate_left
          · simp only [Act.put, List.setIfInBounds_toArray, List.set_cons_zero, List.set_cons_succ, i64_w, i32_w]
            rfl
          refine one_ (i := 8) (N := some 20) #[true, true, true, true, true, true, true, true, true, false] rfl rfl (one_of HT_.out (by kernel_rfl)) (by decide) (fun K hK => ?_)
          refine goes_ Tryd.func22 (by kernel_rfl) rfl #[.slice none 0 0, .int .i64 (wrap64 ((wrap64 (40 * (rd t118 0))) + (rd t118 1)))] (by rfl) rfl rfl (by (try simp only [List.map_toArray, List.map_cons, List.map_nil]); first | done | rfl | (simp only [List.length_drop, List.length_take]; rfl)) ?_
          refine (oid_put.calls k (fun k_ => some k_ = (.slice none 0 0 : Value).ownBlock) (.slice none 0 0) ([] : List Int) (wrap64 ((wrap64 (40 * (rd t118 0))) + (rd t118 1))) t123 w _ ?side1 ?side2 ?side3 A7.out).mono ?_
          (case side1 => refine Ext.G.step ?_ hG_; repeat (first | (with_reducible first | exact HB.out | apply below_alloc | apply pw_below_drewN | apply below_drew1) | exact HB.out))
          (case side2 => repeat (first | (with_reducible first | exact HB.out | apply below_alloc | apply pw_below_drewN | apply below_drew1) | exact HB.out))
          (case side3 => exact Kd.R_nil _ _ _ _ _)
          rintro e w12 ⟨v124, rfl, ho0, hb, hkp⟩
          have HS0_ := cell_kept (hHeld.1) hkp (by first | (rw [add_block]; exact (fun hs_ => (fun e_ => by simp [Value.ownBlock] at e_) hs_)) | (show ¬ _; simp only [add_block]; exact (fun hs_ => (fun e_ => by simp [Value.ownBlock] at e_) hs_)) | exact (fun hs_ => (fun e_ => by simp [Value.ownBlock] at e_) hs_))
          have HS1_ := cell_kept (hHeld.2) hkp (by first | (rw [add_block]; exact (fun hs_ => (fun e_ => by simp [Value.ownBlock] at e_) hs_)) | (show ¬ _; simp only [add_block]; exact (fun hs_ => (fun e_ => by simp [Value.ownBlock] at e_) hs_)) | exact (fun hs_ => (fun e_ => by simp [Value.ownBlock] at e_) hs_))
          refine ⟨_, rfl, ?_⟩
          have n0_ := Aside0.mk (Kd.R_mono (ok' := fun k_ => True) (Kd.R_keptB (HO120.out) hkp (fun k_ hk_ hs_ => (fun e_ => by simp [Value.ownBlock] at e_) hs_)) (fun k_ hk_ => trivial))
          have n1_ := Aside0.mk (Kd.R_mono (ok' := fun k_ => True) ho0 (fun k_ hk_ => trivial))
          have n2_ := Aside0.mk (hb)
          clear HO120
          clear HB
          have HO120 := n0_
          have HO125 := n1_
          have HB := n2_
          clear n0_ n1_ n2_
          (try clear hb)
          (try clear hkp)
          (try clear ho0)
          refine hK.out _ _ ⟨HS0_, HS1_⟩ (fun hHeld => ?_)
          clear hK K
          refine norm_ (a' := ?_) ?_ ?_
          rotate_left
          · show Act.put _ (some 20) _ = _
            simp only [Act.put, List.setIfInBounds_toArray, List.set_cons_zero, List.set_cons_succ, i64_w, i32_w]
            rfl
          refine pure_ (i := 9) (N := some 5) (v := ?_) (a' := ?_) #[true, true, true, true, true, true, true, true, true, true] rfl rfl (any_of HT_.out (by kernel_rfl)) (fun _ _ _ h => h) (Or.inl ⟨by rfl, ?_⟩) ?_ ?_
          rotate_left
          · intro w'
            go_simp
            with_reducible rfl
          rotate_left
          · simp only [Act.put, List.setIfInBounds_toArray, List.set_cons_zero, List.set_cons_succ, i64_w, i32_w]
            rfl
          refine done_ (done_of HT_.out (by kernel_rfl)) ?_
          have q13 : (2 : Int) ≤ ((t118.length : Int) : Int) := of_decide_eq_true (by first | (with_reducible assumption) | assumption)
          obtain ⟨i013, hi013, _, hsz13, _⟩ := info_parts info3
          have hcut13 := cut_from (P := Tryd.prog) 39 3 .i64 Tryd.underlying39 hi013 1 hsz13 (some ad121) t118.length co11 2 (by omega) q13
          have hr13 := Kd.Q_drop (k := (2 : Int).toNat) (Kd.Q_of_R HO120.out) (by omega)
          obtain ⟨A13, hA13⟩ : ∃ A1, A1 = (if co11 = (2 : Int).toNat then (some ad121) else ((some ad121) : Option Addr).map (·.add ((2 : Int).toNat * 1))) := ⟨_, rfl⟩
          obtain ⟨c13, hc13⟩ : ∃ c1, c1 = co11 - (2 : Int).toNat := ⟨_, rfl⟩
          have hy13 : y126.length = t118.length - (2 : Int).toNat := (by rw [Ny126.out, List.length_drop])
          rw [← Ny126.out] at hr13
          rw [← hy13, ← hA13, ← hc13] at hcut13
          replace hr13 : Kd.Q (Kd.int .i64) 3 w12 w.heap.size (fun _ => True) (.slice A13 y126.length c13) y126 := (by rw [hA13, hc13, hy13]; exact hr13)
          have HE13 : Aside0 ((Value.slice A13 y126.length c13).ownBlock = (.slice (some ad121) t118.length co11 : Value).ownBlock) := ⟨by rw [hA13]; split <;> (cases ((some ad121) : Option Addr) <;> rfl)⟩
          clear hy13 hi013 hsz13 HO120 hA13 hc13
          have HO128 := Aside0.mk hr13
          clear hr13
          replace q13 := eq_true q13
          try go_wp2
          go_loopg [5, 24] k (fun kq v5 v24 w' => ∃ (x5_1 : List Int) (x24_1 : Int), v24 = .int .i64 x24_1 ∧ Aside0 (oid_Encode.l0 kq x5_1 y126 (y126.length : Int) x24_1 = some (r1, r2)) ∧ Aside0 (kq ≤ k) ∧ Aside0 (Kd.R (Kd.int .u8) 5 w' w.heap.size (fun _ => True) v5 x5_1) ∧ Aside0 (Kd.Q (Kd.int .i64) 3 w' w.heap.size (fun _ => True) (.slice A13 y126.length c13) y126) ∧ Aside0 (Below w.heap.size w w'))
          case atStart => exact ⟨(t123), (0), (by first | rfl | (simp; done) | (simp [*]; done)), H', ⟨Nat.le_refl _⟩, ⟨by (with_reducible repeat (first | apply Kd.R_alloc | apply Kd.R_drewN | apply Kd.R_drew)); exact HO125.out⟩, ⟨by (with_reducible repeat (first | apply Kd.Q_alloc | apply Kd.Q_drewN | apply Kd.Q_drew)); exact HO128.out⟩, ⟨by repeat (first | (with_reducible first | exact HB.out | apply below_alloc | apply pw_below_drewN | apply below_drew1) | exact HB.out)⟩⟩
          case round =>
            clear H'
            try clear c1
            try clear p1
            try clear q1
            try clear hx1
            try clear qi1
            try clear c2
            try clear p2
            try clear c3
            try clear c3b0
            try clear c3b1
            try clear c3b2
            try clear c5
            try clear c5b0
            try clear c5b1
            try clear c6
            try clear c6b0
            try clear c6b1
            try clear p6
            try clear c8
            try clear c8b0
            try clear c8b1
            try clear c10
            try clear p12
            try clear q12
            try clear hx12
            try clear qi12
            try clear c13
            try clear q13
            try clear hx121_0
            try clear hx122_0
            try clear p121
            try clear p122
            try clear q121
            try clear q122
            try clear q13
            obtain ⟨x5_1, x24_1, rfl, HA, HK1, HO_5, HO_22, HB⟩ := hrel
            cases gk with
            | zero => exact absurd HA.out (by simp [oid_Encode.l0])
            | succ k1 =>
              have H := HA.out
              clear HA
              simp only [oid_Encode.l0] at H
              by_cases c14 : x24_1 < (y126.length : Int)
              · rw [if_pos c14] at H
                have c14b0 : decide (x24_1 < (y126.length : Int)) = true := decide_eq_true c14
                clear c14
                by_cases c15 : 0 ≤ x24_1
                · rw [if_pos c15] at H
                  have c15b0 : decide (0 ≤ x24_1) = true := decide_eq_true c15
                  clear c15
                  by_cases c16 : x24_1 < (y126.length : Int)
                  · rw [if_pos c16] at H
                    have c16b0 : decide (x24_1 < (y126.length : Int)) = true := decide_eq_true c16
                    clear c16
                    replace H := Option.bind_eq_some_iff.mp H
                    obtain ⟨t130, A170, H⟩ := H
                    replace H : (oid_Encode.l0 k1 t130 y126 (y126.length : Int) (wrap64 (x24_1 + 1))) = some (r1, r2) := H
                    have A17 := Aside0.mk A170
                    clear A170
                    have H' := Aside0.mk H
                    clear H
                    have p129 : 0 ≤ (x24_1 : Int) := of_decide_eq_true (by first | (with_reducible assumption) | assumption)
                    have q129 : x24_1 < (y126.length : Int) := of_decide_eq_true (by first | (with_reducible assumption) | assumption)
                    obtain ⟨ad129, e129, hx129_0⟩ := Kd.at_int (Kd.Q_reads' HO_22.out).2.2 x24_1 p129 q129
                    cases e129
                    replace p129 := eq_true p129
                    replace q129 := eq_true q129
                    obtain ⟨Ao18, co18, eo18⟩ := Kd.R_slice HO_5.out
                    subst eo18
                    go_wp2_with (first | ((with_reducible refine gate_callee (f := 22) rfl ?_); refine goesL_ (some 30) rfl rfl Tryd.func22 (by kernel_rfl) rfl #[.slice Ao18 x5_1.length co18, .int .i64 (rd y126 x24_1)] rfl (by (try simp only [List.map_toArray, List.map_cons, List.map_nil]); first | done | rfl | (simp only [List.length_drop, List.length_take]; rfl)) ?_; (with_reducible refine (oid_put.calls k1 (fun k_ => some k_ = (.slice Ao18 x5_1.length co18 : Value).ownBlock) (.slice Ao18 x5_1.length co18) x5_1 (rd y126 x24_1) t130 w _ ?side1 ?side2 ?side3 A17.out).mono ?_); (case side1 => refine Ext.G.step ?_ hG_; repeat (first | (with_reducible first | exact HB.out | apply below_alloc | apply pw_below_drewN | apply below_drew1) | exact HB.out)); (case side2 => repeat (first | (with_reducible first | exact HB.out | apply below_alloc | apply pw_below_drewN | apply below_drew1) | exact HB.out)); (case side3 => exact Kd.R_tight rfl HO_5.out); rintro e w19 ⟨v131, rfl, ho0, hb, hkp⟩; refine ⟨_, rfl, ?_⟩; have n0_ := Aside0.mk (Kd.Q_mono (ok' := fun k_ => True) (Kd.Q_keptB ((Kd.Q_apart' HO_22.out (Kd.R_typed HO_5.out) (by decide))) hkp (fun k_ hk_ hs_ => (hk_.2) hs_)) (fun k_ hk_ => trivial)); have n1_ := Aside0.mk (Kd.R_mono (ok' := fun k_ => True) ho0 (fun k_ hk_ => trivial)); have n2_ := Aside0.mk (hb); clear HO_22; clear HB; clear HO_5; have HO_22 := n0_; have HO132 := n1_; have HB := n2_; clear n0_ n1_ n2_; (try clear hb); (try clear hkp); (try clear ho0)))
                    go_roundg k1
                    case measure => have := HK1.out; omega
                    case rel => exact ⟨(t130), (wrap64 (x24_1 + 1)), (by first | rfl | (simp; done) | (simp [*]; done)), H', ⟨by have := HK1.out; omega⟩, ⟨by (with_reducible repeat (first | apply Kd.R_alloc | apply Kd.R_drewN | apply Kd.R_drew)); exact HO132.out⟩, ⟨by (with_reducible repeat (first | apply Kd.Q_alloc | apply Kd.Q_drewN | apply Kd.Q_drew)); exact HO_22.out⟩, ⟨by repeat (first | (with_reducible first | exact HB.out | apply below_alloc | apply pw_below_drewN | apply below_drew1) | exact HB.out)⟩⟩
                  · rw [if_neg c16] at H
                    exact absurd H (by simp)
                · rw [if_neg c15] at H
                  exact absurd H (by simp)
              · rw [if_neg c14] at H
                have c14b0 : decide (x24_1 < (y126.length : Int)) = false := decide_eq_false c14
                clear c14
                simp only [Option.some.injEq, Prod.mk.injEq] at H
                obtain ⟨rfl, rfl⟩ := H
                have hcv20 := own_string (P := Tryd.prog) Tryd.underlying22 Tryd.underlying5 Tryd.underlying9 (Kd.own_of_R HO_5.out)
                go_wp2
                go_ret2
                exact ⟨by first | rfl | (simp [errW_none, errW_some] <;> rfl) | (simp [*, errW_none, errW_some] <;> rfl), by repeat (first | (with_reducible first | exact HB.out | apply below_alloc | apply pw_below_drewN | apply below_drew1) | exact HB.out)⟩
        · rw [if_neg c8] at H
          exact absurd H (by simp)
      · rw [if_neg c6] at H
        exact absurd H (by simp)
    · rw [if_neg c5] at H
      exact absurd H (by simp)

end Go.Proofs.YtcmmlemajlhjoaaDoor.Q
