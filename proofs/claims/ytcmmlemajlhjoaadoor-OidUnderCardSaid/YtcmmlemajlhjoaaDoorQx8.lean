-- Written by a program of this session (wip/prn.py) out of the translation, for the seat YtcmmlemajlhjoaaDoor. Not trusted: Lean checks it.
import Derived.Test.YtcmmlemajlhjoaaDoorQx0
import Derived.Test.YtcmmlemajlhjoaaDoorQx7
namespace Go.Proofs.YtcmmlemajlhjoaaDoor.Q
open Go.RowKit Go.Proofs.YtcmmlemajlhjoaaDoorW.PrintWords Go.Proofs.YtcmmlemajlhjoaaDoorW.PrintLast Go.Proofs.YtcmmlemajlhjoaaDoorW.PrintMore
attribute [local go_sem] max2_int min2_int max_two min_two max_three min_three max_four min_four   -- for this text's walks alone
set_option linter.unusedVariables false
set_option linter.unusedSimpArgs false

/-! ### certpathref01_EncodeOID: function 11 -/
mutual
def certpathref01_EncodeOID.l0 : Nat → List Int → List Int → Int → Int → Option (ByteArray × Int)
  | 0, _, _, _, _ => none
  | k + 1, x6, x30, x31, x32 => if x32 < x31 then (if 0 ≤ x32 then (if x32 < (x30.length : Int) then (certpathref01_EncodeOID.l1 k x6 (rd x30 x32) ([] : List Int) x30 x31 x32) else (none)) else (none)) else (some (strOfNums x6, 0))
def certpathref01_EncodeOID.l1 : Nat → List Int → Int → List Int → List Int → Int → Int → Option (ByteArray × Int)
  | 0, _, _, _, _, _, _ => none
  | k + 1, x6, x8, x9, x30, x31, x32 => (some (([(Int.tmod x8 128) % 256] : List Int) : List Int)).bind fun y168 => (if y168.length + x9.length < 140737488355328 then ((some (y168 ++ x9 : List Int)).bind fun y171 => (if (wrap64 (Int.tdiv x8 128)) = 0 then (certpathref01_EncodeOID.l2 k x6 y171 0 x30 x31 x32) else (certpathref01_EncodeOID.l1 k x6 (wrap64 (Int.tdiv x8 128)) y171 x30 x31 x32))) else (none))
def certpathref01_EncodeOID.l2 : Nat → List Int → List Int → Int → List Int → Int → Int → Option (ByteArray × Int)
  | 0, _, _, _, _, _, _ => none
  | k + 1, x6, x9, x10, x30, x31, x32 => if (wrap64 (x10 + 1)) < (x9.length : Int) then (if 0 ≤ x10 then (if x10 < (x9.length : Int) then (certpathref01_EncodeOID.l2 k x6 (x9.set (x10 : Int).toNat (((rd x9 x10) + 128) % 256)) (wrap64 (x10 + 1)) x30 x31 x32) else (none)) else (none)) else (if x6.length + x9.length < 140737488355328 then (certpathref01_EncodeOID.l0 k (x6 ++ x9) x30 x31 (wrap64 (x32 + 1))) else (none))
end
def certpathref01_EncodeOID.f (k : Nat) (a0 : ByteArray) : Option (ByteArray × Int) := (certpathref01_arcs.f k a0).bind fun bt151 => (if bt151.2 = true then (if 0 < (bt151.1.length : Int) then (if 1 < (bt151.1.length : Int) then ((some (([wrap64 ((wrap64 (40 * (rd bt151.1 0))) + (rd bt151.1 1))] : List Int) : List Int)).bind fun y157 => (if 2 ≤ (bt151.1.length : Int) then ((some (bt151.1.drop 2 : List Int)).bind fun y160 => (if y157.length + y160.length < 17592186044416 then ((some (y157 ++ y160 : List Int)).bind fun y164 => (certpathref01_EncodeOID.l0 k ([] : List Int) y164 (y164.length : Int) 0)) else (none))) else (none))) else (none)) else (none)) else (some ((⟨#[]⟩ : ByteArray), 11)))
theorem certpathref01_EncodeOID.mono_l : ∀ k, (∀ y0 y1 y2 y3, LeO (certpathref01_EncodeOID.l0 k y0 y1 y2 y3) (certpathref01_EncodeOID.l0 (k + 1) y0 y1 y2 y3)) ∧ (∀ y0 y1 y2 y3 y4 y5, LeO (certpathref01_EncodeOID.l1 k y0 y1 y2 y3 y4 y5) (certpathref01_EncodeOID.l1 (k + 1) y0 y1 y2 y3 y4 y5)) ∧ (∀ y0 y1 y2 y3 y4 y5, LeO (certpathref01_EncodeOID.l2 k y0 y1 y2 y3 y4 y5) (certpathref01_EncodeOID.l2 (k + 1) y0 y1 y2 y3 y4 y5))
  | 0 => ⟨fun _ _ _ _ r h => by simp [certpathref01_EncodeOID.l0] at h, fun _ _ _ _ _ _ r h => by simp [certpathref01_EncodeOID.l1] at h, fun _ _ _ _ _ _ r h => by simp [certpathref01_EncodeOID.l2] at h⟩
  | k + 1 => by
    obtain ⟨ih0, ih1, ih2⟩ := certpathref01_EncodeOID.mono_l k
    refine ⟨?_, ?_, ?_⟩
    · intro y0 y1 y2 y3
      unfold certpathref01_EncodeOID.l0
      repeat' first
      | (with_reducible exact ih0 _ _ _ _)
      | (with_reducible exact ih1 _ _ _ _ _ _)
      | (with_reducible exact ih2 _ _ _ _ _ _)
      | (with_reducible exact certpathref01_arcs.mono _ _)
      | (with_reducible exact LeO.refl _)
      | (with_reducible exact LeO.none _)
      | (with_reducible refine LeO.ite ?_ ?_)
      | (with_reducible refine LeO.bind ?_ (fun _ => ?_))
      | exact ih0 _ _ _ _
      | exact ih1 _ _ _ _ _ _
      | exact ih2 _ _ _ _ _ _
      | exact certpathref01_arcs.mono _ _
      | exact LeO.none _
      | refine LeO.ite ?_ ?_
      | refine LeO.bind ?_ (fun _ => ?_)
    · intro y0 y1 y2 y3 y4 y5
      unfold certpathref01_EncodeOID.l1
      repeat' first
      | (with_reducible exact ih0 _ _ _ _)
      | (with_reducible exact ih1 _ _ _ _ _ _)
      | (with_reducible exact ih2 _ _ _ _ _ _)
      | (with_reducible exact certpathref01_arcs.mono _ _)
      | (with_reducible exact LeO.refl _)
      | (with_reducible exact LeO.none _)
      | (with_reducible refine LeO.ite ?_ ?_)
      | (with_reducible refine LeO.bind ?_ (fun _ => ?_))
      | exact ih0 _ _ _ _
      | exact ih1 _ _ _ _ _ _
      | exact ih2 _ _ _ _ _ _
      | exact certpathref01_arcs.mono _ _
      | exact LeO.none _
      | refine LeO.ite ?_ ?_
      | refine LeO.bind ?_ (fun _ => ?_)
    · intro y0 y1 y2 y3 y4 y5
      unfold certpathref01_EncodeOID.l2
      repeat' first
      | (with_reducible exact ih0 _ _ _ _)
      | (with_reducible exact ih1 _ _ _ _ _ _)
      | (with_reducible exact ih2 _ _ _ _ _ _)
      | (with_reducible exact certpathref01_arcs.mono _ _)
      | (with_reducible exact LeO.refl _)
      | (with_reducible exact LeO.none _)
      | (with_reducible refine LeO.ite ?_ ?_)
      | (with_reducible refine LeO.bind ?_ (fun _ => ?_))
      | exact ih0 _ _ _ _
      | exact ih1 _ _ _ _ _ _
      | exact ih2 _ _ _ _ _ _
      | exact certpathref01_arcs.mono _ _
      | exact LeO.none _
      | refine LeO.ite ?_ ?_
      | refine LeO.bind ?_ (fun _ => ?_)
theorem certpathref01_EncodeOID.mono : ∀ a0 k, LeO (certpathref01_EncodeOID.f k a0) (certpathref01_EncodeOID.f (k + 1) a0) := by
  intro a0 k
  obtain ⟨ih0, ih1, ih2⟩ := certpathref01_EncodeOID.mono_l k
  unfold certpathref01_EncodeOID.f
  repeat' first
      | (with_reducible exact ih0 _ _ _ _)
      | (with_reducible exact ih1 _ _ _ _ _ _)
      | (with_reducible exact ih2 _ _ _ _ _ _)
      | (with_reducible exact certpathref01_arcs.mono _ _)
      | (with_reducible exact LeO.refl _)
      | (with_reducible exact LeO.none _)
      | (with_reducible refine LeO.ite ?_ ?_)
      | (with_reducible refine LeO.bind ?_ (fun _ => ?_))
      | exact ih0 _ _ _ _
      | exact ih1 _ _ _ _ _ _
      | exact ih2 _ _ _ _ _ _
      | exact certpathref01_arcs.mono _ _
      | exact LeO.none _
      | refine LeO.ite ?_ ?_
      | refine LeO.bind ?_ (fun _ => ?_)
def certpathref01_EncodeOID.T4 : Bool × List (List Nat × List Nat) := (true, [([], []), ([0], [0]), ([1], [1]), ([2], [2]), ([], []), ([4], [4]), ([5], [5]), ([3, 6], [3, 6]), ([7], [7]), ([], []), ([9], [9]), ([8, 10], [8, 10]), ([11, 11, 0, 1, 2, 3, 4, 5, 6, 7, 8, 9, 10, 11], [0, 4, 9, 11])])
def certpathref01_EncodeOID.B4 : List Nat := [0, 1, 3, 7, 0, 16, 48, 127, 255, 0, 512, 2047, 4095]
theorem certpathref01_EncodeOID.tab4 : rtab .any (opsOf Tryd.f11 4) = certpathref01_EncodeOID.T4 := by kernel_rfl
theorem certpathref01_EncodeOID.bits4 : waitsOk certpathref01_EncodeOID.T4.2 certpathref01_EncodeOID.B4 = true := by kernel_rfl
set_option maxHeartbeats 8000000 in
set_option maxRecDepth 100000 in
theorem certpathref01_EncodeOID.calls (k : Nat) (a0 : ByteArray) (r1 : ByteArray) (r2 : Int) (w : World) (hG_ : Ext.G w) (h : certpathref01_EncodeOID.f k a0 = some (r1, r2)) :
    Calls Tryd.prog 11 #[.string a0] w fun e w' => e = .returned (.tuple #[.string r1, .int .i64 r2]) ∧ Below w.heap.size w w' := by
  have HB := Aside0.mk (Below.refl w.heap.size w)
  have H : ((certpathref01_arcs.f k a0).bind fun bt151 => (if bt151.2 = true then (if 0 < (bt151.1.length : Int) then (if 1 < (bt151.1.length : Int) then ((some (([wrap64 ((wrap64 (40 * (rd bt151.1 0))) + (rd bt151.1 1))] : List Int) : List Int)).bind fun y157 => (if 2 ≤ (bt151.1.length : Int) then ((some (bt151.1.drop 2 : List Int)).bind fun y160 => (if y157.length + y160.length < 17592186044416 then ((some (y157 ++ y160 : List Int)).bind fun y164 => (certpathref01_EncodeOID.l0 k ([] : List Int) y164 (y164.length : Int) 0)) else (none))) else (none))) else (none)) else (none)) else (some ((⟨#[]⟩ : ByteArray), 11)))) = some (r1, r2) := h
  clear h
  replace H := Option.bind_eq_some_iff.mp H
  obtain ⟨⟨t151, t152⟩, A20, H⟩ := H
  replace H : (if t152 = true then (if 0 < (t151.length : Int) then (if 1 < (t151.length : Int) then ((some (([wrap64 ((wrap64 (40 * (rd t151 0))) + (rd t151 1))] : List Int) : List Int)).bind fun y157 => (if 2 ≤ (t151.length : Int) then ((some (t151.drop 2 : List Int)).bind fun y160 => (if y157.length + y160.length < 17592186044416 then ((some (y157 ++ y160 : List Int)).bind fun y164 => (certpathref01_EncodeOID.l0 k ([] : List Int) y164 (y164.length : Int) 0)) else (none))) else (none))) else (none)) else (none)) else (some ((⟨#[]⟩ : ByteArray), 11))) = some (r1, r2) := H
  have A2 := Aside0.mk A20
  clear A20
  by_cases c3 : t152 = true
  · subst c3
    have H1 : (if 0 < (t151.length : Int) then (if 1 < (t151.length : Int) then ((some (([wrap64 ((wrap64 (40 * (rd t151 0))) + (rd t151 1))] : List Int) : List Int)).bind fun y157 => (if 2 ≤ (t151.length : Int) then ((some (t151.drop 2 : List Int)).bind fun y160 => (if y157.length + y160.length < 17592186044416 then ((some (y157 ++ y160 : List Int)).bind fun y164 => (certpathref01_EncodeOID.l0 k ([] : List Int) y164 (y164.length : Int) 0)) else (none))) else (none))) else (none)) else (none)) = some (r1, r2) := by rw [if_pos rfl] at H; exact H
    clear H
    have H := H1
    clear H1
    by_cases c4 : 0 < (t151.length : Int)
    · rw [if_pos c4] at H
      have c4b0 : decide (0 < (t151.length : Int)) = true := decide_eq_true c4
      have c4b1 : decide (0 < t151.length) = true := decide_eq_true (by omega)
      clear c4
      by_cases c5 : 1 < (t151.length : Int)
      · rw [if_pos c5] at H
        have c5b0 : decide (1 < (t151.length : Int)) = true := decide_eq_true c5
        have c5b1 : decide (1 < t151.length) = true := decide_eq_true (by omega)
        clear c5
        obtain ⟨y157, hy157⟩ : ∃ y_ : List Int, y_ = (([wrap64 ((wrap64 (40 * (rd t151 0))) + (rd t151 1))] : List Int)) := ⟨_, rfl⟩
        replace H : (if 2 ≤ (t151.length : Int) then ((some (t151.drop 2 : List Int)).bind fun y160 => (if y157.length + y160.length < 17592186044416 then ((some (y157 ++ y160 : List Int)).bind fun y164 => (certpathref01_EncodeOID.l0 k ([] : List Int) y164 (y164.length : Int) 0)) else (none))) else (none)) = some (r1, r2) := by first | (rw [hy157]; with_reducible exact H) | (have H2_ := (Option.bind_some _ _).symm.trans H; rw [hy157]; with_reducible exact H2_) | (have H2_ := (Option.bind_some _ _).symm.trans H; with_reducible exact H2_) | with_reducible exact H | (rw [hy157]; exact H) | exact H
        have Ny157 := Aside0.mk hy157
        clear hy157
        by_cases c6 : 2 ≤ (t151.length : Int)
        · rw [if_pos c6] at H
          have c6b0 := eq_true c6
          have c6b1 : decide (2 ≤ (t151.length : Int)) = true := decide_eq_true c6
          clear c6
          obtain ⟨y160, hy160⟩ : ∃ y_ : List Int, y_ = (t151.drop 2) := ⟨_, rfl⟩
          replace H : (if y157.length + y160.length < 17592186044416 then ((some (y157 ++ y160 : List Int)).bind fun y164 => (certpathref01_EncodeOID.l0 k ([] : List Int) y164 (y164.length : Int) 0)) else (none)) = some (r1, r2) := by first | (rw [hy160]; with_reducible exact H) | (have H2_ := (Option.bind_some _ _).symm.trans H; rw [hy160]; with_reducible exact H2_) | (have H2_ := (Option.bind_some _ _).symm.trans H; with_reducible exact H2_) | with_reducible exact H | (rw [hy160]; exact H) | exact H
          have Ny160 := Aside0.mk hy160
          clear hy160
          by_cases c7 : y157.length + y160.length < 17592186044416
          · rw [if_pos c7] at H
            have LMc7 := Aside0.mk c7
            clear c7
            obtain ⟨y164, hy164⟩ : ∃ y_ : List Int, y_ = (y157 ++ y160) := ⟨_, rfl⟩
            replace H : (certpathref01_EncodeOID.l0 k ([] : List Int) y164 (y164.length : Int) 0) = some (r1, r2) := by first | (rw [hy164]; with_reducible exact H) | (have H2_ := (Option.bind_some _ _).symm.trans H; rw [hy164]; with_reducible exact H2_) | (have H2_ := (Option.bind_some _ _).symm.trans H; with_reducible exact H2_) | with_reducible exact H | (rw [hy164]; exact H) | exact H
            have Ny164 := Aside0.mk hy164
            clear hy164
            have H' := Aside0.mk H
            clear H
            go_enter Tryd.func11, Tryd.ntmps11
            try go_wp2_with (first | ((with_reducible refine gate_callee (f := 23) rfl ?_); refine goesL_ (some 13) rfl rfl Tryd.func23 (by kernel_rfl) rfl #[.string a0] rfl (by (try simp only [List.map_toArray, List.map_cons, List.map_nil]); first | done | rfl | (simp only [List.length_drop, List.length_take]; rfl)) ?_; (with_reducible refine (certpathref01_arcs.calls k a0 t151 true _ ?side1 A2.out).mono ?_); (case side1 => refine Ext.G.step ?_ hG_; repeat (first | (with_reducible first | exact HB.out | apply below_alloc | apply pw_below_drewN | apply below_drew1) | exact HB.out)); rintro e w8 ⟨v153, rfl, ho0, hb⟩; refine ⟨_, rfl, ?_⟩; have n0_ := Aside0.mk (Kd.R_lower ho0 (below_size (by repeat (first | (with_reducible first | exact HB.out | apply below_alloc | apply pw_below_drewN | apply below_drew1) | exact HB.out)))); have n1_ := Aside0.mk (below_step (by repeat (first | (with_reducible first | exact HB.out | apply below_alloc | apply pw_below_drewN | apply below_drew1) | exact HB.out)) hb); clear HB; have HO154 := n0_; have HB := n1_; clear n0_ n1_; (try clear hb); (try clear hb2); (try clear hk); (try clear hi); (try clear ho0)))
            have n0_ := Aside0.mk (Kd.R_drew HO154.out)
            have n1_ := Aside0.mk (below_drew1 HB.out)
            clear HO154
            clear HB
            have HO154 := n0_
            have HB := n1_
            clear n0_ n1_
            obtain ⟨Ao10, co10, eo10⟩ := Kd.R_slice HO154.out
            (first | subst eo10 | (injection eo10 with f1_ f2_ f3_; have f4_ := f1_.symm; have f5_ := f3_.symm; clear f1_ f2_ f3_; subst f4_; subst f5_))
            have p155 : 0 ≤ (0 : Int) := (by omega)
            have q155 : 0 < (t151.length : Int) := of_decide_eq_true (by first | (with_reducible assumption) | assumption)
            obtain ⟨ad155, e155, hx155_0⟩ := Kd.at_int (Kd.R_reads' HO154.out).2.2 0 p155 q155
            cases e155
            have qi155 : (0 < t151.length) = True := eq_true (by omega)
            (try rw [show ((0 : Int)).toNat = 0 from rfl] at hx155_0)
            (try rw [Addr.add_zero'] at hx155_0)
            replace p155 := eq_true p155
            replace q155 := eq_true q155
            have p156 : 0 ≤ (1 : Int) := (by omega)
            have q156 : 1 < (t151.length : Int) := of_decide_eq_true (by first | (with_reducible assumption) | assumption)
            obtain ⟨ad156, e156, hx156_0⟩ := Kd.at_int (Kd.R_reads' HO154.out).2.2 1 p156 q156
            obtain rfl : ad155 = ad156 := (by injection e156)
            (try simp only [show (1 : Int).toNat = 1 from rfl, Nat.reduceMul, Nat.reduceEqDiff, Go.Addr.add, ↓reduceIte] at hx156_0)
            have qi156 : (1 < t151.length) = True := eq_true (by omega)
            (try rw [show ((1 : Int)).toNat = 1 from rfl] at hx156_0)
            replace p156 := eq_true p156
            replace q156 := eq_true q156
            have q11 : (2 : Int) ≤ ((t151.length : Int) : Int) := of_decide_eq_true (by first | (with_reducible assumption) | assumption)
            obtain ⟨i011, hi011, _, hsz11, _⟩ := info_parts info3
            have hroom11 : t151.length ≤ co10 := (Kd.R_reads' HO154.out).2.1
            have hC11 : Kd.C (Kd.int .i64) _ (some ad155) t151.length t151 := (Kd.R_reads' HO154.out).2.2
            have hcut11 := cut_from (P := Tryd.prog) 39 3 .i64 Tryd.underlying39 hi011 1 hsz11 (some ad155) t151.length co10 2 (by omega) q11
            have hr11 := Kd.C_drop (m := (2 : Int).toNat) (c := co10) hC11 (by omega) hroom11
            obtain ⟨A11, hA11⟩ : ∃ A1, A1 = (if co10 = (2 : Int).toNat then (some ad155) else ((some ad155) : Option Addr).map (·.add ((2 : Int).toNat * 1))) := ⟨_, rfl⟩
            obtain ⟨c11, hc11⟩ : ∃ c1, c1 = co10 - (2 : Int).toNat := ⟨_, rfl⟩
            have hy11 : y160.length = t151.length - (2 : Int).toNat := (by rw [Ny160.out, List.length_drop] <;> omega)
            rw [show (t151).drop (2 : Int).toNat = y160 from Ny160.out.symm] at hr11
            replace hr11 : Kd.C (Kd.int .i64) _ A11 y160.length y160 := (by rw [hA11]; exact hr11)
            rw [← hy11, ← hA11, ← hc11] at hcut11
            have HR163 := Aside0.mk hr11
            have HC163 := Aside0.mk (show y160.length ≤ c11 from by rw [hy11, hc11]; exact Nat.sub_le_sub_right hroom11 _)
            clear hr11 hC11 hroom11 hi011 hsz11 hc11
            have KY11 := Aside0.mk hy11
            have KA11 := Aside0.mk hA11
            clear hy11 hA11
            have KL11 := Aside0.mk (show 2 ≤ t151.length from by omega)
            replace q11 := eq_true q11
            refine start_ (n := 13) (S := fun w' => w'.cell? ad155 = some (.int .i64 (rd t151 0)) ∧ w'.cell? ⟨ad155.block, ad155.off + 1, none⟩ = some (.int .i64 (rd t151 1))) (ds := [11]) #[false, false, false, false, false, false, false, false, false, false, false, false, false] (by kernel_rfl) rfl rfl ⟨hx155_0, hx156_0⟩ (fun hHeld => ?_); refine with_tabW certpathref01_EncodeOID.tab4 certpathref01_EncodeOID.bits4 (fun HT_ HW_ => ?_)
            generalize w8.drew = w9 at HO154 HB HR163 hx155_0 hx156_0 hHeld ⊢
            refine pure_ (i := 0) (N := some 18) (v := ?_) (a' := ?_) #[true, false, false, false, false, false, false, false, false, false, false, false, false] rfl rfl (any_of HT_.out (by kernel_rfl)) (fun _ _ _ h => h) (Or.inl ⟨by rfl, ?_⟩) ?_ ?_
            rotate_left
            · intro w'
              go_simp
              with_reducible rfl
            rotate_left
            · simp only [Act.put, List.setIfInBounds_toArray, List.set_cons_zero, List.set_cons_succ, i64_w, i32_w]
              rfl
            refine pure_ (i := 1) (N := some 19) (v := ?_) (a' := ?_) #[true, true, false, false, false, false, false, false, false, false, false, false, false] rfl rfl (any_of HT_.out (by kernel_rfl)) (fun _ _ _ h => h) (Or.inl ⟨by rfl, ?_⟩) ?_ ?_
            rotate_left
            · intro w'
              go_simp
              with_reducible rfl
            rotate_left
            · simp only [Act.put, List.setIfInBounds_toArray, List.set_cons_zero, List.set_cons_succ, i64_w, i32_w]
              rfl
            refine pure_ (i := 4) (N := some 22) (v := ?_) (a' := ?_) #[true, true, false, false, true, false, false, false, false, false, false, false, false] rfl rfl (any_of HT_.out (by kernel_rfl)) (fun _ _ _ h => h) (Or.inl ⟨by rfl, ?_⟩) ?_ ?_
            rotate_left
            · intro w'
              go_simp
              with_reducible rfl
            rotate_left
            · simp only [Act.put, List.setIfInBounds_toArray, List.set_cons_zero, List.set_cons_succ, i64_w, i32_w]
              rfl
            refine pure_ (i := 5) (N := some 23) (v := ?_) (a' := ?_) #[true, true, false, false, true, true, false, false, false, false, false, false, false] rfl rfl (any_of HT_.out (by kernel_rfl)) (fun _ _ _ h => h) (Or.inl ⟨by rfl, ?_⟩) ?_ ?_
            rotate_left
            · intro w'
              go_simp
              with_reducible rfl
            rotate_left
            · simp only [Act.put, List.setIfInBounds_toArray, List.set_cons_zero, List.set_cons_succ, i64_w, i32_w]
              rfl
            refine pure_ (i := 9) (N := some 27) (v := ?_) (a' := ?_) #[true, true, false, false, true, true, false, false, false, true, false, false, false] rfl rfl (any_of HT_.out (by kernel_rfl)) (fun _ _ _ h => h) (Or.inl ⟨by rfl, ?_⟩) ?_ ?_
            rotate_left
            · intro w'
              go_simp
              with_reducible rfl
            rotate_left
            · simp only [Act.put, List.setIfInBounds_toArray, List.set_cons_zero, List.set_cons_succ, i64_w, i32_w]
              rfl
            refine pure_ (i := 10) (N := some 28) (v := ?_) (a' := ?_) #[true, true, false, false, true, true, false, false, false, true, true, false, false] rfl rfl (any_of HT_.out (by kernel_rfl)) (fun _ _ _ h => h) (Or.inl ⟨by rfl, ?_⟩) ?_ ?_
            rotate_left
            · intro w'
              go_simp
              with_reducible rfl
            rotate_left
            · simp only [Act.put, List.setIfInBounds_toArray, List.set_cons_zero, List.set_cons_succ, i64_w, i32_w]
              rfl
            refine take_ (i := 2) (N := some 20) (v := ?_) (a' := ?_) #[true, true, true, false, true, true, false, false, false, true, true, false, false] rfl rfl (take_ofW HT_.out HW_.out (by kernel_rfl)) (fun _ _ _ h => h) (Or.inl ⟨by rfl, ?_⟩) hHeld ?_ ?_
            rotate_left
            · rintro w' ⟨s0, s1⟩
              go_simp
              with_reducible rfl
            rotate_left
            · simp only [Act.put, List.setIfInBounds_toArray, List.set_cons_zero, List.set_cons_succ, i64_w, i32_w]
              rfl
            refine pure_ (i := 3) (N := some 21) (v := ?_) (a' := ?_) #[true, true, true, true, true, true, false, false, false, true, true, false, false] rfl rfl (any_of HT_.out (by kernel_rfl)) (fun _ _ _ h => h) (Or.inl ⟨by rfl, ?_⟩) ?_ ?_
            rotate_left
            · intro w'
              go_simp
              with_reducible rfl
            rotate_left
            · simp only [Act.put, List.setIfInBounds_toArray, List.set_cons_zero, List.set_cons_succ, i64_w, i32_w]
              rfl
            refine take_ (i := 6) (N := some 24) (v := ?_) (a' := ?_) #[true, true, true, true, true, true, true, false, false, true, true, false, false] rfl rfl (take_ofW HT_.out HW_.out (by kernel_rfl)) (fun _ _ _ h => h) (Or.inl ⟨by rfl, ?_⟩) hHeld ?_ ?_
            rotate_left
            · rintro w' ⟨s0, s1⟩
              go_simp
              with_reducible rfl
            rotate_left
            · simp only [Act.put, List.setIfInBounds_toArray, List.set_cons_zero, List.set_cons_succ, i64_w, i32_w]
              rfl
            refine pure_ (i := 7) (N := some 25) (v := ?_) (a' := ?_) #[true, true, true, true, true, true, true, true, false, true, true, false, false] rfl rfl (any_of HT_.out (by kernel_rfl)) (fun _ _ _ h => h) (Or.inl ⟨by rfl, ?_⟩) ?_ ?_
            rotate_left
            · intro w'
              go_simp
              with_reducible rfl
            rotate_left
            · simp only [Act.put, List.setIfInBounds_toArray, List.set_cons_zero, List.set_cons_succ, i64_w, i32_w]
              rfl
            refine one_ (i := 8) (N := some 26) #[true, true, true, true, true, true, true, true, true, true, true, false, false] rfl rfl (one_of HT_.out (by kernel_rfl)) (by decide) (fun K hK => ?_)
            refine Kd.R_lit_step (Kd.int .i64) _ 3 ?hg (N := 26) ?hd (xs := ([wrap64 ((wrap64 (40 * (rd t151 0))) + (rd t151 1))] : List Int)) (inner := [.int .i64 (wrap64 ((wrap64 (40 * (rd t151 0))) + (rd t151 1)))]) (ok := fun _ => True) (okp := fun _ => True) ?hr ?hp (fun _ hk => hk) trivial (Below.refl _ _) (Nat.le_refl _) (by simp) ?_; (case hd => rfl); (case hg => rfl); (case hr => first | (go_simp; done) | (go_simp; rfl)); (case hp => exact (Reps.one (show Kd.M (Kd.int .i64) _ _ _ (wrap64 ((wrap64 (40 * (rd t151 0))) + (rd t151 1))) [.int .i64 (wrap64 ((wrap64 (40 * (rd t151 0))) + (rd t151 1)))] from rfl) (Reps.none _ _)))
            intro v158 w12 ho13 hb hg_ hnew_
            have HS0_ := (hb.cell (World.block_lt_of_cell? _ _ (hHeld.1))).trans (hHeld.1)
            have HS1_ := (hb.cell (World.block_lt_of_cell? _ _ (hHeld.2))).trans (hHeld.2)
            clear hg_ hnew_
            (first | rw [← Ny157.out] at ho13 | (simp only [Int.reduceToNat] at ho13; rw [← Ny157.out] at ho13))
            have n0_ := Aside0.mk (Kd.R_elder' (by (with_reducible repeat (first | apply Kd.R_alloc | apply Kd.R_drewN | apply Kd.R_drew)); exact HO154.out) (Kd.R_base ho13) hb)
            have n1_ := Aside0.mk (Kd.R_lower (Kd.R_new' ho13 (Kd.R_lt (by (with_reducible repeat (first | apply Kd.R_alloc | apply Kd.R_drewN | apply Kd.R_drew)); exact HO154.out))) (below_size (by repeat (first | (with_reducible first | exact HB.out | apply below_alloc | apply pw_below_drewN | apply below_drew1) | exact HB.out))))
            have n2_ := Aside0.mk (Kd.C_below (by repeat (first | (with_reducible exact HR163.out) | (with_reducible refine Kd.C_alloc ?_ _) | (with_reducible refine Kd.C_drewN ?_ _) | (with_reducible refine Kd.C_drew ?_) | exact HR163.out)) hb)
            have n3_ := Aside0.mk (below_step (by repeat (first | (with_reducible first | exact HB.out | apply below_alloc | apply pw_below_drewN | apply below_drew1) | exact HB.out)) hb)
            clear HO154
            clear HR163
            clear HB
            have HO154 := n0_
            have HO159 := n1_
            have HR163 := n2_
            have HB := n3_
            clear n0_ n1_ n2_ n3_
            clear hb ho13
            refine hK.out _ _ ⟨HS0_, HS1_⟩ (fun hHeld => ?_)
            clear hK K
            refine norm_ (a' := ?_) ?_ ?_
            rotate_left
            · show Act.put _ (some 26) _ = _
              simp only [Act.put, List.setIfInBounds_toArray, List.set_cons_zero, List.set_cons_succ, i64_w, i32_w]
              rfl
            refine last_ (i := 11) (N := some 29) #[true, true, true, true, true, true, true, true, true, true, true, true, false] rfl rfl (one_of HT_.out (by kernel_rfl)) (by decide) (fun K hK => ?_)
            refine Kd.R_append_rows_step (Kd.int .i64) (w0 := w) w.heap.size (by rfl) (.tmp 26) (.tmp 28) 39 3 (.int .i64 0) 8 rfl Tryd.underlying39 info3 rfl (by decide) (by omega) v158 y157 y160 _ _ _ (fun k_ => some k_ ≠ (.slice (some ad155) t151.length co10 : Value).ownBlock) (fun _ => False) rfl rfl ?aO ?aR (fun _ _ h => h) (fun _ h => h.elim) ?aF ?aB ?aS ?aL ?_
            (case aR => repeat (first | exact (by repeat (first | (with_reducible exact HR163.out) | (with_reducible refine Kd.C_alloc ?_ _) | (with_reducible refine Kd.C_drewN ?_ _) | (with_reducible refine Kd.C_drew ?_) | exact HR163.out)) | (with_reducible refine Kd.C_alloc ?_ _) | (with_reducible refine Kd.C_drewN ?_ _) | (with_reducible refine Kd.C_drew ?_)))
            (case aB => exact (by repeat (first | (with_reducible first | exact HB.out | apply below_alloc | apply pw_below_drewN | apply below_drew1) | exact HB.out)))
            (case aF => exact (fun k_ hk => Kd.fresh' (Kd.R_lt (by (with_reducible repeat (first | apply Kd.R_alloc | apply Kd.R_drewN | apply Kd.R_drew)); exact HO154.out)) k_ hk))
            (case aO => exact (by (with_reducible repeat (first | apply Kd.R_alloc | apply Kd.R_drewN | apply Kd.R_drew)); exact Kd.R_mono HO159.out (fun _ hk => hk.2)))
            (case aS => exact (below_size (by repeat (first | (with_reducible first | exact HB.out | apply below_alloc | apply pw_below_drewN | apply below_drew1) | exact HB.out))))
            (case aL => have := LMc7.out; omega)
            intro v165 w14 ho hb hg hat
            rw [← Ny164.out] at ho
            have n0_ := Aside0.mk (Kd.R_after (ok := (fun _ => True)) (by (with_reducible repeat (first | apply Kd.R_alloc | apply Kd.R_drewN | apply Kd.R_drew)); exact HO154.out) hg hat)
            have n1_ := Aside0.mk (hb)
            have n2_ := Aside0.mk ((show Kd.C (Kd.int .i64) w14 A11 y160.length y160 from by rw [Ny160.out, KA11.out]; exact Kd.C_drop (m := 2) (c := co10) ((Kd.R_reads' (Kd.R_after (ok := (fun _ => True)) (by (with_reducible repeat (first | apply Kd.R_alloc | apply Kd.R_drewN | apply Kd.R_drew)); exact HO154.out) hg hat)).2.2) KL11.out ((Kd.R_reads' (Kd.R_after (ok := (fun _ => True)) (by (with_reducible repeat (first | apply Kd.R_alloc | apply Kd.R_drewN | apply Kd.R_drew)); exact HO154.out) hg hat)).2.1)))
            have n3_ := Aside0.mk (ho)
            clear HO154
            clear HB
            clear HR163
            clear HO159
            have HO154 := n0_
            have HB := n1_
            have HR163 := n2_
            have HO166 := n3_
            clear n0_ n1_ n2_ n3_
            clear ho hb hg hat
            refine hK.out _ _ ?_
            clear hK K
            refine norm_ (a' := ?_) ?_ ?_
            rotate_left
            · show Act.put _ (some 29) _ = _
              simp only [Act.put, List.setIfInBounds_toArray, List.set_cons_zero, List.set_cons_succ, i64_w, i32_w]
              rfl
            refine pure_ (i := 12) (N := some 4) (v := ?_) (a' := ?_) #[true, true, true, true, true, true, true, true, true, true, true, true, true] rfl rfl (any_of HT_.out (by kernel_rfl)) (fun _ _ _ h => h) (Or.inl ⟨by rfl, ?_⟩) ?_ ?_
            rotate_left
            · intro w'
              go_simp
              with_reducible rfl
            rotate_left
            · simp only [Act.put, List.setIfInBounds_toArray, List.set_cons_zero, List.set_cons_succ, i64_w, i32_w]
              rfl
            refine done_ (done_of HT_.out (by kernel_rfl)) ?_
            obtain ⟨Ao15, co15, eo15⟩ := Kd.R_slice HO166.out
            subst eo15
            try go_wp2
            go_loopg [6, 32] k (fun kq v6 v32 w' => ∃ (x6_1 : List Int) (x32_1 : Int), v32 = .int .i64 x32_1 ∧ Aside0 (certpathref01_EncodeOID.l0 kq x6_1 y164 (y164.length : Int) x32_1 = some (r1, r2)) ∧ Aside0 (kq ≤ k) ∧ Aside0 (Kd.R (Kd.int .u8) 5 w' w.heap.size (fun _ => True) v6 x6_1) ∧ Aside0 (Kd.R (Kd.int .i64) 3 w' w.heap.size (fun _ => True) (.slice Ao15 y164.length co15) y164) ∧ Aside0 (Below w.heap.size w w'))
            case atStart => exact ⟨(([] : List Int)), (0), (by first | rfl | (simp; done) | (simp [*]; done)), H', ⟨Nat.le_refl _⟩, ⟨by first | exact Kd.R_nil _ _ _ _ _ | exact Kd.N_nil _ _ _ _ _ | exact Kd.V_nil _ _ _ _ _ | exact Kd.Q_nil _ _ _ _ _ | exact Kd.S_nil _ _ _ _ _⟩, ⟨by (with_reducible repeat (first | apply Kd.R_alloc | apply Kd.R_drewN | apply Kd.R_drew)); exact Kd.R_mono HO166.out (fun _ hk => trivial)⟩, ⟨by repeat (first | (with_reducible first | exact HB.out | apply below_alloc | apply pw_below_drewN | apply below_drew1) | exact HB.out)⟩⟩
            case round =>
              clear H'
              try clear c1
              try clear p1
              try clear q1
              try clear hx1
              try clear qi1
              try clear c2
              try clear p2
              try clear c3
              try clear c4
              try clear c4b0
              try clear c4b1
              try clear c5
              try clear c5b0
              try clear c5b1
              try clear c6
              try clear c6b0
              try clear c6b1
              try clear p6
              try clear c7
              try clear c11
              try clear q11
              try clear p15
              try clear q15
              try clear hx15
              try clear qi15
              try clear hx155_0
              try clear hx156_0
              try clear p155
              try clear p156
              try clear q11
              try clear q155
              try clear q156
              obtain ⟨x6_1, x32_1, rfl, HA, HK1, HO_6, HO_30, HB⟩ := hrel
              cases gk with
              | zero => exact absurd HA.out (by simp [certpathref01_EncodeOID.l0])
              | succ k1 =>
                have H := HA.out
                clear HA
                simp only [certpathref01_EncodeOID.l0] at H
                by_cases c16 : x32_1 < (y164.length : Int)
                · rw [if_pos c16] at H
                  have c16b0 : decide (x32_1 < (y164.length : Int)) = true := decide_eq_true c16
                  clear c16
                  by_cases c17 : 0 ≤ x32_1
                  · rw [if_pos c17] at H
                    have c17b0 : decide (0 ≤ x32_1) = true := decide_eq_true c17
                    clear c17
                    by_cases c18 : x32_1 < (y164.length : Int)
                    · rw [if_pos c18] at H
                      have c18b0 : decide (x32_1 < (y164.length : Int)) = true := decide_eq_true c18
                      clear c18
                      have H' := Aside0.mk H
                      clear H
                      have p167 : 0 ≤ (x32_1 : Int) := of_decide_eq_true (by first | (with_reducible assumption) | assumption)
                      have q167 : x32_1 < (y164.length : Int) := of_decide_eq_true (by first | (with_reducible assumption) | assumption)
                      obtain ⟨ad167, e167, hx167_0⟩ := Kd.at_int (Kd.R_reads' HO_30.out).2.2 x32_1 p167 q167
                      cases e167
                      replace p167 := eq_true p167
                      replace q167 := eq_true q167
                      go_wp2
                      go_loopg [8, 9] k1 (fun kq v8 v9 w' => ∃ (x8_2 : Int) (x9_2 : List Int), v8 = .int .i64 x8_2 ∧ Aside0 (certpathref01_EncodeOID.l1 kq x6_1 x8_2 x9_2 y164 (y164.length : Int) x32_1 = some (r1, r2)) ∧ Aside0 (kq ≤ k1) ∧ Aside0 (Kd.R (Kd.int .u8) 5 w' w.heap.size (fun k_ => some k_ ≠ (v9 : Value).ownBlock) u6 x6_1) ∧ Aside0 (Kd.R (Kd.int .u8) 5 w' w.heap.size (fun k_ => some k_ ≠ (u6 : Value).ownBlock) v9 x9_2) ∧ Aside0 (Kd.R (Kd.int .i64) 3 w' w.heap.size (fun _ => True) (.slice (some ad167) y164.length co15) y164) ∧ Aside0 (Below w.heap.size w w'))
                      case atStart => exact ⟨(rd y164 x32_1), (([] : List Int)), (by first | rfl | (simp; done) | (simp [*]; done)), H', ⟨Nat.le_refl _⟩, ⟨by (with_reducible repeat (first | apply Kd.R_alloc | apply Kd.R_drewN | apply Kd.R_drew)); exact Kd.R_mono HO_6.out (fun _ hk => (by simp [Value.ownBlock]))⟩, ⟨by first | exact Kd.R_nil _ _ _ _ _ | exact Kd.N_nil _ _ _ _ _ | exact Kd.V_nil _ _ _ _ _ | exact Kd.Q_nil _ _ _ _ _ | exact Kd.S_nil _ _ _ _ _⟩, ⟨by (with_reducible repeat (first | apply Kd.R_alloc | apply Kd.R_drewN | apply Kd.R_drew)); exact HO_30.out⟩, ⟨by repeat (first | (with_reducible first | exact HB.out | apply below_alloc | apply pw_below_drewN | apply below_drew1) | exact HB.out)⟩⟩
                      case round =>
                        clear H'
                        try clear c1
                        try clear p1
                        try clear q1
                        try clear hx1
                        try clear qi1
                        try clear c2
                        try clear p2
                        try clear c3
                        try clear c4
                        try clear c4b0
                        try clear c4b1
                        try clear c5
                        try clear c5b0
                        try clear c5b1
                        try clear c6
                        try clear c6b0
                        try clear c6b1
                        try clear p6
                        try clear c7
                        try clear c11
                        try clear q11
                        try clear p15
                        try clear q15
                        try clear hx15
                        try clear qi15
                        try clear c16
                        try clear c16b0
                        try clear p16
                        try clear q16
                        try clear hx16
                        try clear c17
                        try clear c17b0
                        try clear c18
                        try clear c18b0
                        try clear hx155_0
                        try clear hx156_0
                        try clear hx167_0
                        try clear p1
                        try clear p15
                        try clear p155
                        try clear p156
                        try clear p167
                        try clear p2
                        try clear p6
                        try clear q1
                        try clear q11
                        try clear q15
                        try clear q155
                        try clear q156
                        try clear q167
                        obtain ⟨x8_2, x9_2, rfl, HA, HK2, HO_6, HO_9, HO_30, HB⟩ := hrel
                        cases gk with
                        | zero => exact absurd HA.out (by simp [certpathref01_EncodeOID.l1])
                        | succ k2 =>
                          have H := HA.out
                          clear HA
                          simp only [certpathref01_EncodeOID.l1] at H
                          obtain ⟨y168, hy168⟩ : ∃ y_ : List Int, y_ = (([(Int.tmod x8_2 128) % 256] : List Int)) := ⟨_, rfl⟩
                          replace H : (if y168.length + x9_2.length < 140737488355328 then ((some (y168 ++ x9_2 : List Int)).bind fun y171 => (if (wrap64 (Int.tdiv x8_2 128)) = 0 then (certpathref01_EncodeOID.l2 k2 x6_1 y171 0 y164 (y164.length : Int) x32_1) else (certpathref01_EncodeOID.l1 k2 x6_1 (wrap64 (Int.tdiv x8_2 128)) y171 y164 (y164.length : Int) x32_1))) else (none)) = some (r1, r2) := by first | (rw [hy168]; with_reducible exact H) | (have H2_ := (Option.bind_some _ _).symm.trans H; rw [hy168]; with_reducible exact H2_) | (have H2_ := (Option.bind_some _ _).symm.trans H; with_reducible exact H2_) | with_reducible exact H | (rw [hy168]; exact H) | exact H
                          have Ny168 := Aside0.mk hy168
                          clear hy168
                          by_cases c19 : y168.length + x9_2.length < 140737488355328
                          · rw [if_pos c19] at H
                            have LMc19 := Aside0.mk c19
                            clear c19
                            obtain ⟨y171, hy171⟩ : ∃ y_ : List Int, y_ = (y168 ++ x9_2) := ⟨_, rfl⟩
                            replace H : (if (wrap64 (Int.tdiv x8_2 128)) = 0 then (certpathref01_EncodeOID.l2 k2 x6_1 y171 0 y164 (y164.length : Int) x32_1) else (certpathref01_EncodeOID.l1 k2 x6_1 (wrap64 (Int.tdiv x8_2 128)) y171 y164 (y164.length : Int) x32_1)) = some (r1, r2) := by first | (rw [hy171]; with_reducible exact H) | (have H2_ := (Option.bind_some _ _).symm.trans H; rw [hy171]; with_reducible exact H2_) | (have H2_ := (Option.bind_some _ _).symm.trans H; with_reducible exact H2_) | with_reducible exact H | (rw [hy171]; exact H) | exact H
                            have Ny171 := Aside0.mk hy171
                            clear hy171
                            by_cases c20 : (wrap64 (Int.tdiv x8_2 128)) = 0
                            · rw [if_pos c20] at H
                              have c20b0 : ((wrap64 (Int.tdiv x8_2 128)) == 0) = true := beq_iff_eq.mpr c20
                              have c20b1 : ((wrap64 (Int.tdiv x8_2 128)) != 0) = false := bne_eq_false_iff_eq.mpr c20
                              clear c20
                              have H' := Aside0.mk H
                              clear H
                              go_wp2_with (first | ((with_reducible refine gate_dst (N := 39) rfl ?_); refine Kd.R_lit (Kd.int .u8) _ 5 ?hg (N := 39) ?hd (xs := ([(Int.tmod x8_2 128) % 256] : List Int)) (inner := [.int .u8 ((Int.tmod x8_2 128) % 256)]) (ok := fun _ => True) (okp := fun _ => True) ?hr ?hp (fun _ hk => hk) trivial (Below.refl _ _) (Nat.le_refl _) (by simp) ?_; (case hd => rfl); (case hg => rfl); (case hr => first | (go_simp; done) | (go_simp; rfl)); (case hp => exact (Reps.one (show Kd.M (Kd.int .u8) _ _ _ ((Int.tmod x8_2 128) % 256) [.int .u8 ((Int.tmod x8_2 128) % 256)] from rfl) (Reps.none _ _))); intro v169 w21 ho22 hb hg_ hnew_; clear hg_ hnew_; (first | rw [← Ny168.out] at ho22 | (simp only [Int.reduceToNat] at ho22; rw [← Ny168.out] at ho22)); have n0_ := Aside0.mk (Kd.R_elder' (by (with_reducible repeat (first | apply Kd.R_alloc | apply Kd.R_drewN | apply Kd.R_drew)); exact HO_6.out) (Kd.R_base ho22) hb); have n1_ := Aside0.mk (Kd.R_elder' (by (with_reducible repeat (first | apply Kd.R_alloc | apply Kd.R_drewN | apply Kd.R_drew)); exact HO_9.out) (Kd.R_base ho22) hb); have n2_ := Aside0.mk (Kd.R_below (by (with_reducible repeat (first | apply Kd.R_alloc | apply Kd.R_drewN | apply Kd.R_drew)); exact HO_30.out) hb); have n3_ := Aside0.mk (Kd.R_lower (Kd.R_new' (Kd.R_new' ho22 (Kd.R_lt (by (with_reducible repeat (first | apply Kd.R_alloc | apply Kd.R_drewN | apply Kd.R_drew)); exact HO_6.out))) (Kd.R_lt (by (with_reducible repeat (first | apply Kd.R_alloc | apply Kd.R_drewN | apply Kd.R_drew)); exact HO_9.out))) (below_size (by repeat (first | (with_reducible first | exact HB.out | apply below_alloc | apply pw_below_drewN | apply below_drew1) | exact HB.out)))); have n4_ := Aside0.mk (below_step (by repeat (first | (with_reducible first | exact HB.out | apply below_alloc | apply pw_below_drewN | apply below_drew1) | exact HB.out)) hb); clear HO_6; clear HO_9; clear HO_30; clear HB; have HO_6 := n0_; have HO_9 := n1_; have HO_30 := n2_; have HO170 := n3_; have HB := n4_; clear n0_ n1_ n2_ n3_ n4_; clear hb ho22; obtain ⟨Ao24, co24, eo24⟩ := Kd.R_slice HO_9.out; subst eo24) | ((with_reducible refine gate_builtin (b := .append) (xs := #[.tmp 39, .tmp 40]) rfl ?_); at_builtin; refine Kd.R_append_rows (Kd.int .u8) (w0 := w) w.heap.size rfl (.tmp 39) (.tmp 40) 22 5 (.int .u8 0) 1 rfl Tryd.underlying22 info5 rfl (by decide) (by omega) v169 y168 x9_2 _ _ _ (fun k_ => some k_ ≠ (u6 : Value).ownBlock ∧ some k_ ≠ (.slice Ao24 x9_2.length co24 : Value).ownBlock) (fun _ => False) rfl rfl ?aO ?aR (fun _ _ h => h) (fun _ h => h.elim) ?aF ?aB ?aS ?aL ?_; (case aR => repeat (first | exact (Kd.R_reads' HO_9.out).2.2 | (with_reducible refine Kd.C_alloc ?_ _) | (with_reducible refine Kd.C_drewN ?_ _) | (with_reducible refine Kd.C_drew ?_))); (case aB => exact (by repeat (first | (with_reducible first | exact HB.out | apply below_alloc | apply pw_below_drewN | apply below_drew1) | exact HB.out))); (case aF => exact (fun k_ hk => ⟨Kd.fresh' (Kd.R_lt (by (with_reducible repeat (first | apply Kd.R_alloc | apply Kd.R_drewN | apply Kd.R_drew)); exact HO_6.out)) k_ hk, Kd.fresh' (Kd.R_lt (by (with_reducible repeat (first | apply Kd.R_alloc | apply Kd.R_drewN | apply Kd.R_drew)); exact HO_9.out)) k_ hk⟩)); (case aO => exact (by (with_reducible repeat (first | apply Kd.R_alloc | apply Kd.R_drewN | apply Kd.R_drew)); exact Kd.R_mono HO170.out (fun _ hk => ⟨hk.1.2, hk.2⟩))); (case aS => exact (below_size (by repeat (first | (with_reducible first | exact HB.out | apply below_alloc | apply pw_below_drewN | apply below_drew1) | exact HB.out)))); (case aL => have := LMc19.out; omega); intro v172 w23 ho hb hg hat; rw [← Ny171.out] at ho; have n0_ := Aside0.mk (Kd.R_after (ok := (fun k_ => some k_ ≠ (.slice Ao24 x9_2.length co24 : Value).ownBlock)) (by (with_reducible repeat (first | apply Kd.R_alloc | apply Kd.R_drewN | apply Kd.R_drew)); exact HO_6.out) hg hat); have n1_ := Aside0.mk (Kd.R_after (ok := (fun k_ => some k_ ≠ (u6 : Value).ownBlock)) (by (with_reducible repeat (first | apply Kd.R_alloc | apply Kd.R_drewN | apply Kd.R_drew)); exact HO_9.out) hg hat); have n2_ := Aside0.mk (Kd.R_over' (by (with_reducible repeat (first | apply Kd.R_alloc | apply Kd.R_drewN | apply Kd.R_drew)); exact HO_30.out) (Kd.R_typed (by (with_reducible repeat (first | apply Kd.R_alloc | apply Kd.R_drewN | apply Kd.R_drew)); exact HO170.out)) (by decide) hg); have n3_ := Aside0.mk (hb); have n4_ := Aside0.mk (ho); clear HO_6; clear HO_9; clear HO_30; clear HB; clear HO170; have HO_6 := n0_; have HO_9 := n1_; have HO_30 := n2_; have HB := n3_; have HO173 := n4_; clear n0_ n1_ n2_ n3_ n4_; clear ho hb hg hat))
                              go_loopg [10] k2 (fun kq v10 w' => ∃ (x9_3 : List Int) (x10_3 : Int), v10 = .int .i64 x10_3 ∧ Aside0 (certpathref01_EncodeOID.l2 kq x6_1 x9_3 x10_3 y164 (y164.length : Int) x32_1 = some (r1, r2)) ∧ Aside0 (kq ≤ k2) ∧ Aside0 (Kd.R (Kd.int .u8) 5 w' w.heap.size (fun k_ => some k_ ≠ (v172 : Value).ownBlock) u6 x6_1) ∧ Aside0 (Kd.R (Kd.int .u8) 5 w' w.heap.size (fun k_ => some k_ ≠ (u6 : Value).ownBlock) v172 x9_3) ∧ Aside0 (Kd.R (Kd.int .i64) 3 w' w.heap.size (fun _ => True) (.slice (some ad167) y164.length co15) y164) ∧ Aside0 (Below w.heap.size w w'))
                              case atStart => exact ⟨(y171), (0), (by first | rfl | (simp; done) | (simp [*]; done)), H', ⟨Nat.le_refl _⟩, ⟨by (with_reducible repeat (first | apply Kd.R_alloc | apply Kd.R_drewN | apply Kd.R_drew)); exact Kd.R_mono HO_6.out (fun _ hk => hk.2)⟩, ⟨by (with_reducible repeat (first | apply Kd.R_alloc | apply Kd.R_drewN | apply Kd.R_drew)); exact Kd.R_mono HO173.out (fun _ hk => hk.1)⟩, ⟨by (with_reducible repeat (first | apply Kd.R_alloc | apply Kd.R_drewN | apply Kd.R_drew)); exact HO_30.out⟩, ⟨by repeat (first | (with_reducible first | exact HB.out | apply below_alloc | apply pw_below_drewN | apply below_drew1) | exact HB.out)⟩⟩
                              case round =>
                                clear H'
                                try clear c1
                                try clear p1
                                try clear q1
                                try clear hx1
                                try clear qi1
                                try clear c2
                                try clear p2
                                try clear c3
                                try clear c4
                                try clear c4b0
                                try clear c4b1
                                try clear c5
                                try clear c5b0
                                try clear c5b1
                                try clear c6
                                try clear c6b0
                                try clear c6b1
                                try clear p6
                                try clear c7
                                try clear c11
                                try clear q11
                                try clear p15
                                try clear q15
                                try clear hx15
                                try clear qi15
                                try clear c16
                                try clear c16b0
                                try clear p16
                                try clear q16
                                try clear hx16
                                try clear c17
                                try clear c17b0
                                try clear c18
                                try clear c18b0
                                try clear c19
                                try clear c20
                                try clear c20b0
                                try clear c20b1
                                try clear c23
                                try clear hx155_0
                                try clear hx156_0
                                try clear hx167_0
                                try clear p1
                                try clear p15
                                try clear p155
                                try clear p156
                                try clear p16
                                try clear p167
                                try clear p2
                                try clear p6
                                try clear q1
                                try clear q11
                                try clear q15
                                try clear q155
                                try clear q156
                                try clear q16
                                try clear q167
                                obtain ⟨x9_3, x10_3, rfl, HA, HK3, HO_6, HO_9, HO_30, HB⟩ := hrel
                                cases gk with
                                | zero => exact absurd HA.out (by simp [certpathref01_EncodeOID.l2])
                                | succ k3 =>
                                  have H := HA.out
                                  clear HA
                                  simp only [certpathref01_EncodeOID.l2] at H
                                  by_cases c25 : (wrap64 (x10_3 + 1)) < (x9_3.length : Int)
                                  · rw [if_pos c25] at H
                                    have c25b0 : decide ((wrap64 (x10_3 + 1)) < (x9_3.length : Int)) = true := decide_eq_true c25
                                    clear c25
                                    by_cases c26 : 0 ≤ x10_3
                                    · rw [if_pos c26] at H
                                      have c26b0 : decide (0 ≤ x10_3) = true := decide_eq_true c26
                                      clear c26
                                      by_cases c27 : x10_3 < (x9_3.length : Int)
                                      · rw [if_pos c27] at H
                                        have c27b0 : decide (x10_3 < (x9_3.length : Int)) = true := decide_eq_true c27
                                        clear c27
                                        obtain ⟨y175, hy175⟩ : ∃ y_ : List Int, y_ = (x9_3.set (x10_3 : Int).toNat (((rd x9_3 x10_3) + 128) % 256)) := ⟨_, rfl⟩
                                        replace H : (certpathref01_EncodeOID.l2 k3 x6_1 y175 (wrap64 (x10_3 + 1)) y164 (y164.length : Int) x32_1) = some (r1, r2) := by first | (rw [hy175]; with_reducible exact H) | (have H2_ := (Option.bind_some _ _).symm.trans H; rw [hy175]; with_reducible exact H2_) | (have H2_ := (Option.bind_some _ _).symm.trans H; with_reducible exact H2_) | with_reducible exact H | (rw [hy175]; exact H) | exact H
                                        have Ny175 := Aside0.mk hy175
                                        clear hy175
                                        have H' := Aside0.mk H
                                        clear H
                                        obtain ⟨Ao29, co29, eo29⟩ := Kd.R_slice HO_9.out
                                        subst eo29
                                        have p174 : 0 ≤ (x10_3 : Int) := of_decide_eq_true (by first | (with_reducible assumption) | assumption)
                                        have q174 : x10_3 < (x9_3.length : Int) := of_decide_eq_true (by first | (with_reducible assumption) | assumption)
                                        obtain ⟨ad174, e174, hx174_0⟩ := Kd.at_int (Kd.R_reads' HO_9.out).2.2 x10_3 p174 q174
                                        cases e174
                                        replace p174 := eq_true p174
                                        replace q174 := eq_true q174
                                        have p28 : 0 ≤ (x10_3 : Int) := of_decide_eq_true (by first | (with_reducible assumption) | assumption)
                                        have q28 : (x10_3 : Int) < ((x9_3.length : Int) : Int) := of_decide_eq_true (by first | (with_reducible assumption) | assumption)
                                        obtain ⟨go28, co28, eo28, gb28, gl28, cl28, HG28⟩ := Kd.R_form HO_9.out (by omega)
                                        (first | cases eo28 | (injection eo28 with ea_ en_ ec_; (first | subst ea_ | (injection ea_ with ea_; subst ea_)); subst ec_; clear en_))
                                        have GB28 := Aside0.mk gb28
                                        have GG28 := Aside0.mk HG28
                                        clear gb28 gl28 HG28
                                        (first | simp only [add_plain] at hx174_0 | skip)
                                        obtain ⟨hx28_0, hf28_0⟩ := Kd.R_celln 0 HO_9.out (x10_3 : Int) p28 q28
                                        replace p28 := eq_true p28
                                        replace q28 := eq_true q28
                                        have HP30 := Kd.R_putg HO_9.out (x10_3 : Int) (((rd x9_3 x10_3) + 128) % 256)
                                        go_wp2_with (first | ((with_reducible refine gate_store (t := 5) (p := 58) rfl ?_); refine store_event (t := 5) (p := 58) (v := ?vo_w31) (w1 := (wr.setCell ⟨go28, (x10_3 : Int).toNat, none⟩ (.int .u8 (((rd x9_3 x10_3) + 128) % 256)))) ?hg ?ho ?hn ?hr ?_; (case ho => rfl); (case hg => rfl); (case hn => rfl); (case hr => first | (go_simp; done) | (go_simp; rfl)); intro w31 hw; have hg : wr.grownBy w31 (some go28) := (by rw [hw]; exact HP30.2); have hp_ : Kd.R (Kd.int .u8) 5 w31 w.heap.size (fun k_ => some k_ ≠ (u6 : Value).ownBlock) (.slice (some ⟨go28, 0, none⟩) x9_3.length co29) y175 := (by rw [hw, Ny175.out]; exact HP30.1); clear HP30; have n0_ := Aside0.mk (Kd.R_after (v := (.slice (some ⟨go28, 0, none⟩) x9_3.length co29)) (v1 := (.slice (some ⟨go28, 0, none⟩) x9_3.length co29)) (ok := (fun _ => True)) (by (with_reducible repeat (first | apply Kd.R_alloc | apply Kd.R_drewN | apply Kd.R_drew)); exact Kd.R_mono HO_6.out (fun _ hk => ⟨trivial, hk⟩)) hg (.inl rfl)); have n1_ := Aside0.mk (hp_); have n2_ := Aside0.mk (Kd.R_over' (v := (.slice (some ⟨go28, 0, none⟩) x9_3.length co29)) (by (with_reducible repeat (first | apply Kd.R_alloc | apply Kd.R_drewN | apply Kd.R_drew)); exact HO_30.out) (Kd.R_typed HO_9.out) (by decide) hg); have n3_ := Aside0.mk ((by rw [hw]; exact below_set (HB.out) GB28.out : Below w.heap.size w w31)); clear HO_6; clear HO_9; clear HO_30; clear HB; have HO_6 := n0_; have HO_9 := n1_; have HO_30 := n2_; have HB := n3_; clear n0_ n1_ n2_ n3_; clear hg hw hp_))
                                        go_roundg k3
                                        case measure => have := HK1.out; have := HK2.out; have := HK3.out; omega
                                        case rel => exact ⟨(y175), (wrap64 (x10_3 + 1)), (by first | rfl | (simp; done) | (simp [*]; done)), H', ⟨by have := HK1.out; have := HK2.out; have := HK3.out; omega⟩, ⟨by (with_reducible repeat (first | apply Kd.R_alloc | apply Kd.R_drewN | apply Kd.R_drew)); exact Kd.R_mono HO_6.out (fun _ hk => hk.2)⟩, ⟨by (with_reducible repeat (first | apply Kd.R_alloc | apply Kd.R_drewN | apply Kd.R_drew)); exact HO_9.out⟩, ⟨by (with_reducible repeat (first | apply Kd.R_alloc | apply Kd.R_drewN | apply Kd.R_drew)); exact HO_30.out⟩, ⟨by repeat (first | (with_reducible first | exact HB.out | apply below_alloc | apply pw_below_drewN | apply below_drew1) | exact HB.out)⟩⟩
                                      · rw [if_neg c27] at H
                                        exact absurd H (by simp)
                                    · rw [if_neg c26] at H
                                      exact absurd H (by simp)
                                  · rw [if_neg c25] at H
                                    have c25b0 : decide ((wrap64 (x10_3 + 1)) < (x9_3.length : Int)) = false := decide_eq_false c25
                                    clear c25
                                    by_cases c32 : x6_1.length + x9_3.length < 140737488355328
                                    · rw [if_pos c32] at H
                                      have LMc32 := Aside0.mk c32
                                      clear c32
                                      obtain ⟨y176, hy176⟩ : ∃ y_ : List Int, y_ = (x6_1 ++ x9_3) := ⟨_, rfl⟩
                                      replace H : (certpathref01_EncodeOID.l0 k3 y176 y164 (y164.length : Int) (wrap64 (x32_1 + 1))) = some (r1, r2) := by first | (rw [hy176]; with_reducible exact H) | (have H2_ := (Option.bind_some _ _).symm.trans H; rw [hy176]; with_reducible exact H2_) | (have H2_ := (Option.bind_some _ _).symm.trans H; with_reducible exact H2_) | with_reducible exact H | (rw [hy176]; exact H) | exact H
                                      have Ny176 := Aside0.mk hy176
                                      clear hy176
                                      have H' := Aside0.mk H
                                      clear H
                                      obtain ⟨Ao33, co33, eo33⟩ := Kd.R_slice HO_9.out
                                      subst eo33
                                      go_wp2_with (first | ((with_reducible refine gate_builtin (b := .append) (xs := #[.tmp 59, .tmp 60]) rfl ?_); at_builtin; refine Kd.R_append_rows (Kd.int .u8) (w0 := w) w.heap.size rfl (.tmp 59) (.tmp 60) 22 5 (.int .u8 0) 1 rfl Tryd.underlying22 info5 rfl (by decide) (by omega) u6 x6_1 x9_3 _ _ _ (fun k_ => some k_ ≠ (.slice Ao33 x9_3.length co33 : Value).ownBlock) (fun _ => False) rfl rfl ?aO ?aR (fun _ _ h => h) (fun _ h => h.elim) ?aF ?aB ?aS ?aL ?_; (case aR => repeat (first | exact (Kd.R_reads' HO_9.out).2.2 | (with_reducible refine Kd.C_alloc ?_ _) | (with_reducible refine Kd.C_drewN ?_ _) | (with_reducible refine Kd.C_drew ?_))); (case aB => exact (by repeat (first | (with_reducible first | exact HB.out | apply below_alloc | apply pw_below_drewN | apply below_drew1) | exact HB.out))); (case aF => exact (fun k_ hk => Kd.fresh' (Kd.R_lt (by (with_reducible repeat (first | apply Kd.R_alloc | apply Kd.R_drewN | apply Kd.R_drew)); exact HO_9.out)) k_ hk)); (case aO => exact (by (with_reducible repeat (first | apply Kd.R_alloc | apply Kd.R_drewN | apply Kd.R_drew)); exact HO_6.out)); (case aS => exact (below_size (by repeat (first | (with_reducible first | exact HB.out | apply below_alloc | apply pw_below_drewN | apply below_drew1) | exact HB.out)))); (case aL => have := LMc32.out; omega); intro v177 w34 ho hb hg hat; rw [← Ny176.out] at ho; have n0_ := Aside0.mk (Kd.R_after (ok := (fun _ => True)) (by (with_reducible repeat (first | apply Kd.R_alloc | apply Kd.R_drewN | apply Kd.R_drew)); exact Kd.R_mono HO_9.out (fun _ hk => ⟨trivial, hk⟩)) hg hat); have n1_ := Aside0.mk (Kd.R_over' (by (with_reducible repeat (first | apply Kd.R_alloc | apply Kd.R_drewN | apply Kd.R_drew)); exact HO_30.out) (Kd.R_typed (by (with_reducible repeat (first | apply Kd.R_alloc | apply Kd.R_drewN | apply Kd.R_drew)); exact HO_6.out)) (by decide) hg); have n2_ := Aside0.mk (hb); have n3_ := Aside0.mk (ho); clear HO_9; clear HO_30; clear HB; clear HO_6; have HO_9 := n0_; have HO_30 := n1_; have HB := n2_; have HO178 := n3_; clear n0_ n1_ n2_ n3_; clear ho hb hg hat))
                                      go_roundg k3
                                      case measure => have := HK1.out; have := HK2.out; have := HK3.out; omega
                                      case rel => exact ⟨(y176), (wrap64 (x32_1 + 1)), (by first | rfl | (simp; done) | (simp [*]; done)), H', ⟨by have := HK1.out; have := HK2.out; have := HK3.out; omega⟩, ⟨by (with_reducible repeat (first | apply Kd.R_alloc | apply Kd.R_drewN | apply Kd.R_drew)); exact Kd.R_mono HO178.out (fun _ hk => trivial)⟩, ⟨by (with_reducible repeat (first | apply Kd.R_alloc | apply Kd.R_drewN | apply Kd.R_drew)); exact HO_30.out⟩, ⟨by repeat (first | (with_reducible first | exact HB.out | apply below_alloc | apply pw_below_drewN | apply below_drew1) | exact HB.out)⟩⟩
                                    · rw [if_neg c32] at H
                                      exact absurd H (by simp)
                            · rw [if_neg c20] at H
                              have c20b0 : ((wrap64 (Int.tdiv x8_2 128)) == 0) = false := beq_eq_false_iff_ne.mpr c20
                              have c20b1 : ((wrap64 (Int.tdiv x8_2 128)) != 0) = true := bne_iff_ne.mpr c20
                              have H' := Aside0.mk H
                              clear H
                              go_wp2_with (first | ((with_reducible refine gate_dst (N := 39) rfl ?_); refine Kd.R_lit (Kd.int .u8) _ 5 ?hg (N := 39) ?hd (xs := ([(Int.tmod x8_2 128) % 256] : List Int)) (inner := [.int .u8 ((Int.tmod x8_2 128) % 256)]) (ok := fun _ => True) (okp := fun _ => True) ?hr ?hp (fun _ hk => hk) trivial (Below.refl _ _) (Nat.le_refl _) (by simp) ?_; (case hd => rfl); (case hg => rfl); (case hr => first | (go_simp; done) | (go_simp; rfl)); (case hp => exact (Reps.one (show Kd.M (Kd.int .u8) _ _ _ ((Int.tmod x8_2 128) % 256) [.int .u8 ((Int.tmod x8_2 128) % 256)] from rfl) (Reps.none _ _))); intro v169 w35 ho36 hb hg_ hnew_; clear hg_ hnew_; (first | rw [← Ny168.out] at ho36 | (simp only [Int.reduceToNat] at ho36; rw [← Ny168.out] at ho36)); have n0_ := Aside0.mk (Kd.R_elder' (by (with_reducible repeat (first | apply Kd.R_alloc | apply Kd.R_drewN | apply Kd.R_drew)); exact HO_6.out) (Kd.R_base ho36) hb); have n1_ := Aside0.mk (Kd.R_elder' (by (with_reducible repeat (first | apply Kd.R_alloc | apply Kd.R_drewN | apply Kd.R_drew)); exact HO_9.out) (Kd.R_base ho36) hb); have n2_ := Aside0.mk (Kd.R_below (by (with_reducible repeat (first | apply Kd.R_alloc | apply Kd.R_drewN | apply Kd.R_drew)); exact HO_30.out) hb); have n3_ := Aside0.mk (Kd.R_lower (Kd.R_new' (Kd.R_new' ho36 (Kd.R_lt (by (with_reducible repeat (first | apply Kd.R_alloc | apply Kd.R_drewN | apply Kd.R_drew)); exact HO_6.out))) (Kd.R_lt (by (with_reducible repeat (first | apply Kd.R_alloc | apply Kd.R_drewN | apply Kd.R_drew)); exact HO_9.out))) (below_size (by repeat (first | (with_reducible first | exact HB.out | apply below_alloc | apply pw_below_drewN | apply below_drew1) | exact HB.out)))); have n4_ := Aside0.mk (below_step (by repeat (first | (with_reducible first | exact HB.out | apply below_alloc | apply pw_below_drewN | apply below_drew1) | exact HB.out)) hb); clear HO_6; clear HO_9; clear HO_30; clear HB; have HO_6 := n0_; have HO_9 := n1_; have HO_30 := n2_; have HO170 := n3_; have HB := n4_; clear n0_ n1_ n2_ n3_ n4_; clear hb ho36; obtain ⟨Ao38, co38, eo38⟩ := Kd.R_slice HO_9.out; subst eo38) | ((with_reducible refine gate_builtin (b := .append) (xs := #[.tmp 39, .tmp 40]) rfl ?_); at_builtin; refine Kd.R_append_rows (Kd.int .u8) (w0 := w) w.heap.size rfl (.tmp 39) (.tmp 40) 22 5 (.int .u8 0) 1 rfl Tryd.underlying22 info5 rfl (by decide) (by omega) v169 y168 x9_2 _ _ _ (fun k_ => some k_ ≠ (u6 : Value).ownBlock ∧ some k_ ≠ (.slice Ao38 x9_2.length co38 : Value).ownBlock) (fun _ => False) rfl rfl ?aO ?aR (fun _ _ h => h) (fun _ h => h.elim) ?aF ?aB ?aS ?aL ?_; (case aR => repeat (first | exact (Kd.R_reads' HO_9.out).2.2 | (with_reducible refine Kd.C_alloc ?_ _) | (with_reducible refine Kd.C_drewN ?_ _) | (with_reducible refine Kd.C_drew ?_))); (case aB => exact (by repeat (first | (with_reducible first | exact HB.out | apply below_alloc | apply pw_below_drewN | apply below_drew1) | exact HB.out))); (case aF => exact (fun k_ hk => ⟨Kd.fresh' (Kd.R_lt (by (with_reducible repeat (first | apply Kd.R_alloc | apply Kd.R_drewN | apply Kd.R_drew)); exact HO_6.out)) k_ hk, Kd.fresh' (Kd.R_lt (by (with_reducible repeat (first | apply Kd.R_alloc | apply Kd.R_drewN | apply Kd.R_drew)); exact HO_9.out)) k_ hk⟩)); (case aO => exact (by (with_reducible repeat (first | apply Kd.R_alloc | apply Kd.R_drewN | apply Kd.R_drew)); exact Kd.R_mono HO170.out (fun _ hk => ⟨hk.1.2, hk.2⟩))); (case aS => exact (below_size (by repeat (first | (with_reducible first | exact HB.out | apply below_alloc | apply pw_below_drewN | apply below_drew1) | exact HB.out)))); (case aL => have := LMc19.out; omega); intro v172 w37 ho hb hg hat; rw [← Ny171.out] at ho; have n0_ := Aside0.mk (Kd.R_after (ok := (fun k_ => some k_ ≠ (.slice Ao38 x9_2.length co38 : Value).ownBlock)) (by (with_reducible repeat (first | apply Kd.R_alloc | apply Kd.R_drewN | apply Kd.R_drew)); exact HO_6.out) hg hat); have n1_ := Aside0.mk (Kd.R_after (ok := (fun k_ => some k_ ≠ (u6 : Value).ownBlock)) (by (with_reducible repeat (first | apply Kd.R_alloc | apply Kd.R_drewN | apply Kd.R_drew)); exact HO_9.out) hg hat); have n2_ := Aside0.mk (Kd.R_over' (by (with_reducible repeat (first | apply Kd.R_alloc | apply Kd.R_drewN | apply Kd.R_drew)); exact HO_30.out) (Kd.R_typed (by (with_reducible repeat (first | apply Kd.R_alloc | apply Kd.R_drewN | apply Kd.R_drew)); exact HO170.out)) (by decide) hg); have n3_ := Aside0.mk (hb); have n4_ := Aside0.mk (ho); clear HO_6; clear HO_9; clear HO_30; clear HB; clear HO170; have HO_6 := n0_; have HO_9 := n1_; have HO_30 := n2_; have HB := n3_; have HO173 := n4_; clear n0_ n1_ n2_ n3_ n4_; clear ho hb hg hat))
                              go_roundg k2
                              case measure => have := HK1.out; have := HK2.out; omega
                              case rel => exact ⟨(wrap64 (Int.tdiv x8_2 128)), (y171), (by first | rfl | (simp; done) | (simp [*]; done)), H', ⟨by have := HK1.out; have := HK2.out; omega⟩, ⟨by (with_reducible repeat (first | apply Kd.R_alloc | apply Kd.R_drewN | apply Kd.R_drew)); exact Kd.R_mono HO_6.out (fun _ hk => hk.2)⟩, ⟨by (with_reducible repeat (first | apply Kd.R_alloc | apply Kd.R_drewN | apply Kd.R_drew)); exact Kd.R_mono HO173.out (fun _ hk => hk.1)⟩, ⟨by (with_reducible repeat (first | apply Kd.R_alloc | apply Kd.R_drewN | apply Kd.R_drew)); exact HO_30.out⟩, ⟨by repeat (first | (with_reducible first | exact HB.out | apply below_alloc | apply pw_below_drewN | apply below_drew1) | exact HB.out)⟩⟩
                          · rw [if_neg c19] at H
                            exact absurd H (by simp)
                    · rw [if_neg c18] at H
                      exact absurd H (by simp)
                  · rw [if_neg c17] at H
                    exact absurd H (by simp)
                · rw [if_neg c16] at H
                  have c16b0 : decide (x32_1 < (y164.length : Int)) = false := decide_eq_false c16
                  clear c16
                  simp only [Option.some.injEq, Prod.mk.injEq] at H
                  obtain ⟨rfl, rfl⟩ := H
                  have hcv39 := own_string (P := Tryd.prog) Tryd.underlying22 Tryd.underlying5 Tryd.underlying9 (Kd.own_of_R HO_6.out)
                  go_wp2
                  go_ret2
                  exact ⟨by first | rfl | (simp [errW_none, errW_some] <;> rfl) | (simp [*, errW_none, errW_some] <;> rfl), by repeat (first | (with_reducible first | exact HB.out | apply below_alloc | apply pw_below_drewN | apply below_drew1) | exact HB.out)⟩
          · rw [if_neg c7] at H
            exact absurd H (by simp)
        · rw [if_neg c6] at H
          exact absurd H (by simp)
      · rw [if_neg c5] at H
        exact absurd H (by simp)
    · rw [if_neg c4] at H
      exact absurd H (by simp)
  · replace c3 := Bool.eq_false_iff.mpr c3
    subst c3
    have H1 : (some ((⟨#[]⟩ : ByteArray), 11)) = some (r1, r2) := by rw [if_neg (show ¬ (false = true) by decide)] at H; exact H
    clear H
    have H := H1
    clear H1
    simp only [Option.some.injEq, Prod.mk.injEq] at H
    obtain ⟨rfl, rfl⟩ := H
    go_enter Tryd.func11, Tryd.ntmps11
    go_wp2_with (first | ((with_reducible refine gate_callee (f := 23) rfl ?_); refine goesL_ (some 13) rfl rfl Tryd.func23 (by kernel_rfl) rfl #[.string a0] rfl (by (try simp only [List.map_toArray, List.map_cons, List.map_nil]); first | done | rfl | (simp only [List.length_drop, List.length_take]; rfl)) ?_; (with_reducible refine (certpathref01_arcs.calls k a0 t151 false _ ?side1 A2.out).mono ?_); (case side1 => refine Ext.G.step ?_ hG_; repeat (first | (with_reducible first | exact HB.out | apply below_alloc | apply pw_below_drewN | apply below_drew1) | exact HB.out)); rintro e w40 ⟨v153, rfl, ho0, hb⟩; refine ⟨_, rfl, ?_⟩; have n0_ := Aside0.mk (Kd.R_lower ho0 (below_size (by repeat (first | (with_reducible first | exact HB.out | apply below_alloc | apply pw_below_drewN | apply below_drew1) | exact HB.out)))); have n1_ := Aside0.mk (below_step (by repeat (first | (with_reducible first | exact HB.out | apply below_alloc | apply pw_below_drewN | apply below_drew1) | exact HB.out)) hb); clear HB; have HO154 := n0_; have HB := n1_; clear n0_ n1_; (try clear hb); (try clear hb2); (try clear hk); (try clear hi); (try clear ho0)))
    go_ret2
    exact ⟨by first | rfl | (simp [errW_none, errW_some] <;> rfl) | (simp [*, errW_none, errW_some] <;> rfl), by repeat (first | (with_reducible first | exact HB.out | apply below_alloc | apply pw_below_drewN | apply below_drew1) | exact HB.out)⟩

end Go.Proofs.YtcmmlemajlhjoaaDoor.Q
