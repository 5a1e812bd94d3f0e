-- Written by a program of this session (wip/prn.py) out of the translation, for the seat YtcmmlemajlhjoaaDoor. Not trusted: Lean checks it.
import Derived.Test.YtcmmlemajlhjoaaDoorQx0
import Derived.Test.YtcmmlemajlhjoaaDoorQx6
import Derived.Test.YtcmmlemajlhjoaaDoorQx12
import Derived.Test.YtcmmlemajlhjoaaDoorQx13
import Derived.Test.YtcmmlemajlhjoaaDoorQx14
namespace Go.Proofs.YtcmmlemajlhjoaaDoor.Q
open Go.RowKit Go.Proofs.YtcmmlemajlhjoaaDoorW.PrintWords Go.Proofs.YtcmmlemajlhjoaaDoorW.PrintLast Go.Proofs.YtcmmlemajlhjoaaDoorW.PrintMore
attribute [local go_sem] max2_int min2_int max_two min_two max_three min_three max_four min_four   -- for this text's walks alone
set_option linter.unusedVariables false
set_option linter.unusedSimpArgs false

/-! ### certpathlaw04_OidUnder: function 4 -/
mutual
def certpathlaw04_OidUnder.j0 : Nat → List Int → Int → Int → ByteArray → Bool → Option (Bool)
  | 0, _, _, _, _, _ => none
  | k + 1, x0, x1, x2, x3, x21 => if x21 = true then ((certpathlaw04_awake.f k).bind fun t225 => (some t225)) else ((certpathlaw04_id.f k x0).bind fun t226 => (if 0 ≤ (mn (x0.length : Int) (wrap64 (1 + (wrap64 (Int.tmod x1 8))))) then (if (mn (x0.length : Int) (wrap64 (1 + (wrap64 (Int.tmod x1 8))))) ≤ (x0.length : Int) then ((certpathlaw04_id.f k (x0.take ((mn (x0.length : Int) (wrap64 (1 + (wrap64 (Int.tmod x1 8))))) : Int).toNat)).bind fun t228 => (if 0 ≤ (mn (mn (x0.length : Int) (wrap64 (1 + (wrap64 (Int.tmod x1 8))))) (wrap64 (1 + (wrap64 (Int.tmod x2 8))))) then (if (mn (mn (x0.length : Int) (wrap64 (1 + (wrap64 (Int.tmod x1 8))))) (wrap64 (1 + (wrap64 (Int.tmod x2 8))))) ≤ (x0.length : Int) then ((certpathlaw04_id.f k (x0.take ((mn (mn (x0.length : Int) (wrap64 (1 + (wrap64 (Int.tmod x1 8))))) (wrap64 (1 + (wrap64 (Int.tmod x2 8))))) : Int).toNat)).bind fun t230 => (if t226.size + 1 ≤ 9223372036854775807 then ((some (([(⟨t226, t228⟩ : S33), (⟨t228, t226⟩ : S33), (⟨t228, t230⟩ : S33), (⟨t230, t228⟩ : S33), (⟨t226, x3⟩ : S33), (⟨x3, t226⟩ : S33), (⟨t226, t226 ++ (⟨#[48]⟩ : ByteArray)⟩ : S33)] : List (S33)) : List (S33))).bind fun y231 => (certpathlaw04_OidUnder.l0 k t226 t228 t230 y231 (y231.length : Int) 0)) else (none))) else (none)) else (none))) else (none)) else (none)))
def certpathlaw04_OidUnder.l0 : Nat → ByteArray → ByteArray → ByteArray → List (S33) → Int → Int → Option (Bool)
  | 0, _, _, _, _, _, _ => none
  | k + 1, x9, x10, x11, x71, x72, x73 => if x73 < x72 then (if 0 ≤ x73 then (if x73 < (x71.length : Int) then ((oid_Under.f k ((rd_T33 x71 x73).f0) ((rd_T33 x71 x73).f1)).bind fun t236 => ((certpathref01_UnderOID.f k ((rd_T33 x71 x73).f0) ((rd_T33 x71 x73).f1)).bind fun t237 => (if (t236 != t237) = true then (some false) else (certpathlaw04_OidUnder.l0 k x9 x10 x11 x71 x72 (wrap64 (x73 + 1)))))) else (none)) else (none)) else ((certpathlaw04_awake.f k).bind fun t238 => (if t238 = true then ((oid_Under.f k x9 x9).bind fun t239 => (if t239 = true then ((oid_Under.f k x9 x10).bind fun t240 => (if t240 = true then ((oid_Under.f k x10 x11).bind fun t241 => (if t241 = true then ((oid_Under.f k x9 x11).bind fun t242 => (some t242)) else (some false))) else (some false))) else (some false))) else (some false)))
end
def certpathlaw04_OidUnder.f (k : Nat) (l0 : List Int) (a1 : Int) (a2 : Int) (a3 : ByteArray) : Option (Bool) := if (a3.size : Int) > 200 then (certpathlaw04_OidUnder.j0 k l0 a1 a2 a3 true) else (certpathlaw04_OidUnder.j0 k l0 a1 a2 a3 (decide ((l0.length : Int) > 8)))
theorem certpathlaw04_OidUnder.mono_l : ∀ k, (∀ y0 y1 y2 y3 y4, LeO (certpathlaw04_OidUnder.j0 k y0 y1 y2 y3 y4) (certpathlaw04_OidUnder.j0 (k + 1) y0 y1 y2 y3 y4)) ∧ (∀ y0 y1 y2 y3 y4 y5, LeO (certpathlaw04_OidUnder.l0 k y0 y1 y2 y3 y4 y5) (certpathlaw04_OidUnder.l0 (k + 1) y0 y1 y2 y3 y4 y5))
  | 0 => ⟨fun _ _ _ _ _ r h => by simp [certpathlaw04_OidUnder.j0] at h, fun _ _ _ _ _ _ r h => by simp [certpathlaw04_OidUnder.l0] at h⟩
  | k + 1 => by
    obtain ⟨ih0, ih1⟩ := certpathlaw04_OidUnder.mono_l k
    refine ⟨?_, ?_⟩
    · intro y0 y1 y2 y3 y4
      unfold certpathlaw04_OidUnder.j0
      repeat' first
      | (with_reducible exact ih0 _ _ _ _ _)
      | (with_reducible exact ih1 _ _ _ _ _ _)
      | (with_reducible exact certpathlaw04_awake.mono _)
      | (with_reducible exact certpathlaw04_id.mono _ _)
      | (with_reducible exact certpathref01_UnderOID.mono _ _ _)
      | (with_reducible exact oid_Under.mono _ _ _)
      | (with_reducible exact LeO.refl _)
      | (with_reducible exact LeO.none _)
      | (with_reducible refine LeO.ite ?_ ?_)
      | (with_reducible refine LeO.bind ?_ (fun _ => ?_))
      | exact ih0 _ _ _ _ _
      | exact ih1 _ _ _ _ _ _
      | exact certpathlaw04_awake.mono _
      | exact certpathlaw04_id.mono _ _
      | exact certpathref01_UnderOID.mono _ _ _
      | exact oid_Under.mono _ _ _
      | exact LeO.none _
      | refine LeO.ite ?_ ?_
      | refine LeO.bind ?_ (fun _ => ?_)
    · intro y0 y1 y2 y3 y4 y5
      unfold certpathlaw04_OidUnder.l0
      repeat' first
      | (with_reducible exact ih0 _ _ _ _ _)
      | (with_reducible exact ih1 _ _ _ _ _ _)
      | (with_reducible exact certpathlaw04_awake.mono _)
      | (with_reducible exact certpathlaw04_id.mono _ _)
      | (with_reducible exact certpathref01_UnderOID.mono _ _ _)
      | (with_reducible exact oid_Under.mono _ _ _)
      | (with_reducible exact LeO.refl _)
      | (with_reducible exact LeO.none _)
      | (with_reducible refine LeO.ite ?_ ?_)
      | (with_reducible refine LeO.bind ?_ (fun _ => ?_))
      | exact ih0 _ _ _ _ _
      | exact ih1 _ _ _ _ _ _
      | exact certpathlaw04_awake.mono _
      | exact certpathlaw04_id.mono _ _
      | exact certpathref01_UnderOID.mono _ _ _
      | exact oid_Under.mono _ _ _
      | exact LeO.none _
      | refine LeO.ite ?_ ?_
      | refine LeO.bind ?_ (fun _ => ?_)
theorem certpathlaw04_OidUnder.mono : ∀ a0 a1 a2 a3 k, LeO (certpathlaw04_OidUnder.f k a0 a1 a2 a3) (certpathlaw04_OidUnder.f (k + 1) a0 a1 a2 a3) := by
  intro a0 a1 a2 a3 k
  obtain ⟨ih0, ih1⟩ := certpathlaw04_OidUnder.mono_l k
  unfold certpathlaw04_OidUnder.f
  repeat' first
      | (with_reducible exact ih0 _ _ _ _ _)
      | (with_reducible exact ih1 _ _ _ _ _ _)
      | (with_reducible exact certpathlaw04_awake.mono _)
      | (with_reducible exact certpathlaw04_id.mono _ _)
      | (with_reducible exact certpathref01_UnderOID.mono _ _ _)
      | (with_reducible exact oid_Under.mono _ _ _)
      | (with_reducible exact LeO.refl _)
      | (with_reducible exact LeO.none _)
      | (with_reducible refine LeO.ite ?_ ?_)
      | (with_reducible refine LeO.bind ?_ (fun _ => ?_))
      | exact ih0 _ _ _ _ _
      | exact ih1 _ _ _ _ _ _
      | exact certpathlaw04_awake.mono _
      | exact certpathlaw04_id.mono _ _
      | exact certpathref01_UnderOID.mono _ _ _
      | exact oid_Under.mono _ _ _
      | exact LeO.none _
      | refine LeO.ite ?_ ?_
      | refine LeO.bind ?_ (fun _ => ?_)
def certpathlaw04_OidUnder.T9 : Bool × List (List Nat × List Nat) := (true, [([], []), ([0], [0]), ([], []), ([2], [2]), ([1, 3], [1, 3]), ([], []), ([5], [5]), ([], []), ([7], [7]), ([6, 8, 4], [6, 8]), ([4, 9], [4, 9])])
def certpathlaw04_OidUnder.B9 : List Nat := [0, 1, 0, 4, 15, 0, 32, 0, 128, 511, 1023]
theorem certpathlaw04_OidUnder.tab9 : rtab .any (opsOf Tryd.f4 9) = certpathlaw04_OidUnder.T9 := by kernel_rfl
theorem certpathlaw04_OidUnder.bits9 : waitsOk certpathlaw04_OidUnder.T9.2 certpathlaw04_OidUnder.B9 = true := by kernel_rfl
set_option maxHeartbeats 8000000 in
set_option maxRecDepth 100000 in
theorem certpathlaw04_OidUnder.calls (k : Nat) (A0 : Option Addr) (c0 : Nat) (l0 : List Int) (a1 : Int) (a2 : Int) (a3 : ByteArray) (r : Bool) (w : World) (hG_ : Ext.G w) (hr0 : Kd.C (Kd.int .u32) w A0 l0.length l0) (hc0 : l0.length ≤ c0) (h : certpathlaw04_OidUnder.f k l0 a1 a2 a3 = some r) :
    Calls Tryd.prog 4 #[.slice A0 l0.length c0, .int .u8 a1, .int .u8 a2, .string a3] w fun e w' => e = .returned (.bool r) ∧ Below w.heap.size w w' := by
  have hu33 := Tryd.underlying33
  have HR0 := Aside0.mk hr0
  have HC0 := Aside0.mk hc0
  clear hr0 hc0
  have HB := Aside0.mk (Below.refl w.heap.size w)
  have H : (if (a3.size : Int) > 200 then (certpathlaw04_OidUnder.j0 k l0 a1 a2 a3 true) else (certpathlaw04_OidUnder.j0 k l0 a1 a2 a3 (decide ((l0.length : Int) > 8)))) = some r := h
  clear h
  have HC5 := Aside0.mk H
  clear H
  go_enter Tryd.func4, Tryd.ntmps4
  go_upto_region 1 with (fail)
  go_cut [21] (fun v21 wc => ∃ (kq : Nat) (x21_4 : Bool), v21 = .bool x21_4 ∧ Aside0 (certpathlaw04_OidUnder.j0 kq l0 a1 a2 a3 x21_4 = some r) ∧ Aside0 (kq ≤ k) ∧ Aside0 (Below w.heap.size w wc))
  case first =>
    have H := HC5.out
    clear HC5
    by_cases c6 : (a3.size : Int) > 200
    · rw [if_pos c6] at H
      have c6b0 : decide (200 < (a3.size : Int)) = true := decide_eq_true c6
      have c6b1 : decide (200 < a3.size) = true := decide_eq_true (by omega)
      clear c6
      (first | rw [c6b0] | (simp only [i64_w, i32_w]; rw [c6b0]) | skip)
      have H' := Aside0.mk H
      clear H
      go_wp2
      go_meet
      case rel => exact ⟨_, (true), (by first | rfl | (simp; done) | (simp [*]; done)), H', ⟨by first | omega | exact Nat.le_refl _⟩, ⟨by repeat (first | (with_reducible first | exact HB.out | apply below_alloc | apply pw_below_drewN | apply below_drew1) | exact HB.out)⟩⟩
    · rw [if_neg c6] at H
      have c6b0 : decide (200 < (a3.size : Int)) = false := decide_eq_false c6
      have c6b1 : decide (200 < a3.size) = false := decide_eq_false (by omega)
      clear c6
      (first | rw [c6b0] | (simp only [i64_w, i32_w]; rw [c6b0]) | skip)
      have H' := Aside0.mk H
      clear H
      go_wp2
      go_meet
      case rel => exact ⟨_, (decide ((l0.length : Int) > 8)), (by first | rfl | (simp; done) | (simp [*]; done)), H', ⟨by first | omega | exact Nat.le_refl _⟩, ⟨by repeat (first | (with_reducible first | exact HB.out | apply below_alloc | apply pw_below_drewN | apply below_drew1) | exact HB.out)⟩⟩
  case rest =>
    clear HC5
    try clear p2
    try clear c4
    try clear c6
    try clear c6b0
    try clear c6b1
    obtain ⟨kq, x21_4, rfl, HA, HJ4, HB⟩ := hcut
    cases kq with
    | zero => exact absurd HA.out (by simp [certpathlaw04_OidUnder.j0])
    | succ kj4 =>
      have H := HA.out
      clear HA
      simp only [certpathlaw04_OidUnder.j0] at H
      by_cases c7 : x21_4 = true
      · subst c7
        have H1 : ((certpathlaw04_awake.f kj4).bind fun t225 => (some t225)) = some r := by rw [if_pos rfl] at H; exact H
        clear H
        have H := H1
        clear H1
        replace H := Option.bind_eq_some_iff.mp H
        obtain ⟨t225, A80, H⟩ := H
        replace H : (some t225) = some r := H
        have A8 := Aside0.mk A80
        clear A80
        obtain rfl := Option.some.inj H
        go_wp2_with (first | ((with_reducible refine gate_callee (f := 8) rfl ?_); refine goesL_ (some 22) rfl rfl Tryd.func8 (by kernel_rfl) rfl #[] rfl (by (try simp only [List.map_toArray, List.map_cons, List.map_nil]); first | done | rfl | (simp only [List.length_drop, List.length_take]; rfl)) ?_; (with_reducible refine (certpathlaw04_awake.calls kj4  t225 _ ?side1 A8.out).mono ?_); (case side1 => refine Ext.G.step ?_ hG_; repeat (first | (with_reducible first | exact HB.out | apply below_alloc | apply pw_below_drewN | apply below_drew1) | exact HB.out)); rintro e w9 ⟨rfl, hb⟩; refine ⟨_, rfl, ?_⟩; have n0_ := Aside0.mk (below_step (by repeat (first | (with_reducible first | exact HB.out | apply below_alloc | apply pw_below_drewN | apply below_drew1) | exact HB.out)) hb); clear HB; have HB := n0_; clear n0_; (try clear hb); (try clear hb2); (try clear hk); (try clear hi)))
        go_ret
        exact ⟨by first | rfl | (simp [errW_none, errW_some] <;> rfl) | (simp [*, errW_none, errW_some] <;> rfl), by repeat (first | (with_reducible first | exact HB.out | apply below_alloc | apply pw_below_drewN | apply below_drew1) | exact HB.out)⟩
      · replace c7 := Bool.eq_false_iff.mpr c7
        subst c7
        have H1 : ((certpathlaw04_id.f kj4 l0).bind fun t226 => (if 0 ≤ (mn (l0.length : Int) (wrap64 (1 + (wrap64 (Int.tmod a1 8))))) then (if (mn (l0.length : Int) (wrap64 (1 + (wrap64 (Int.tmod a1 8))))) ≤ (l0.length : Int) then ((certpathlaw04_id.f kj4 (l0.take ((mn (l0.length : Int) (wrap64 (1 + (wrap64 (Int.tmod a1 8))))) : Int).toNat)).bind fun t228 => (if 0 ≤ (mn (mn (l0.length : Int) (wrap64 (1 + (wrap64 (Int.tmod a1 8))))) (wrap64 (1 + (wrap64 (Int.tmod a2 8))))) then (if (mn (mn (l0.length : Int) (wrap64 (1 + (wrap64 (Int.tmod a1 8))))) (wrap64 (1 + (wrap64 (Int.tmod a2 8))))) ≤ (l0.length : Int) then ((certpathlaw04_id.f kj4 (l0.take ((mn (mn (l0.length : Int) (wrap64 (1 + (wrap64 (Int.tmod a1 8))))) (wrap64 (1 + (wrap64 (Int.tmod a2 8))))) : Int).toNat)).bind fun t230 => (if t226.size + 1 ≤ 9223372036854775807 then ((some (([(⟨t226, t228⟩ : S33), (⟨t228, t226⟩ : S33), (⟨t228, t230⟩ : S33), (⟨t230, t228⟩ : S33), (⟨t226, a3⟩ : S33), (⟨a3, t226⟩ : S33), (⟨t226, t226 ++ (⟨#[48]⟩ : ByteArray)⟩ : S33)] : List (S33)) : List (S33))).bind fun y231 => (certpathlaw04_OidUnder.l0 kj4 t226 t228 t230 y231 (y231.length : Int) 0)) else (none))) else (none)) else (none))) else (none)) else (none))) = some r := by rw [if_neg (show ¬ (false = true) by decide)] at H; exact H
        clear H
        have H := H1
        clear H1
        replace H := Option.bind_eq_some_iff.mp H
        obtain ⟨t226, A100, H⟩ := H
        replace H : (if 0 ≤ (mn (l0.length : Int) (wrap64 (1 + (wrap64 (Int.tmod a1 8))))) then (if (mn (l0.length : Int) (wrap64 (1 + (wrap64 (Int.tmod a1 8))))) ≤ (l0.length : Int) then ((certpathlaw04_id.f kj4 (l0.take ((mn (l0.length : Int) (wrap64 (1 + (wrap64 (Int.tmod a1 8))))) : Int).toNat)).bind fun t228 => (if 0 ≤ (mn (mn (l0.length : Int) (wrap64 (1 + (wrap64 (Int.tmod a1 8))))) (wrap64 (1 + (wrap64 (Int.tmod a2 8))))) then (if (mn (mn (l0.length : Int) (wrap64 (1 + (wrap64 (Int.tmod a1 8))))) (wrap64 (1 + (wrap64 (Int.tmod a2 8))))) ≤ (l0.length : Int) then ((certpathlaw04_id.f kj4 (l0.take ((mn (mn (l0.length : Int) (wrap64 (1 + (wrap64 (Int.tmod a1 8))))) (wrap64 (1 + (wrap64 (Int.tmod a2 8))))) : Int).toNat)).bind fun t230 => (if t226.size + 1 ≤ 9223372036854775807 then ((some (([(⟨t226, t228⟩ : S33), (⟨t228, t226⟩ : S33), (⟨t228, t230⟩ : S33), (⟨t230, t228⟩ : S33), (⟨t226, a3⟩ : S33), (⟨a3, t226⟩ : S33), (⟨t226, t226 ++ (⟨#[48]⟩ : ByteArray)⟩ : S33)] : List (S33)) : List (S33))).bind fun y231 => (certpathlaw04_OidUnder.l0 kj4 t226 t228 t230 y231 (y231.length : Int) 0)) else (none))) else (none)) else (none))) else (none)) else (none)) = some r := H
        have A10 := Aside0.mk A100
        clear A100
        obtain ⟨ji11, hji11⟩ : ∃ j_ : Int, (mn (l0.length : Int) (wrap64 (1 + (wrap64 (Int.tmod a1 8))))) = j_ := ⟨_, rfl⟩
        replace H : (if 0 ≤ (ji11) then (if (ji11) ≤ (l0.length : Int) then ((certpathlaw04_id.f kj4 (l0.take ((ji11) : Int).toNat)).bind fun t228 => (if 0 ≤ (mn (ji11) (wrap64 (1 + (wrap64 (Int.tmod a2 8))))) then (if (mn (ji11) (wrap64 (1 + (wrap64 (Int.tmod a2 8))))) ≤ (l0.length : Int) then ((certpathlaw04_id.f kj4 (l0.take ((mn (ji11) (wrap64 (1 + (wrap64 (Int.tmod a2 8))))) : Int).toNat)).bind fun t230 => (if t226.size + 1 ≤ 9223372036854775807 then ((some (([(⟨t226, t228⟩ : S33), (⟨t228, t226⟩ : S33), (⟨t228, t230⟩ : S33), (⟨t230, t228⟩ : S33), (⟨t226, a3⟩ : S33), (⟨a3, t226⟩ : S33), (⟨t226, t226 ++ (⟨#[48]⟩ : ByteArray)⟩ : S33)] : List (S33)) : List (S33))).bind fun y231 => (certpathlaw04_OidUnder.l0 kj4 t226 t228 t230 y231 (y231.length : Int) 0)) else (none))) else (none)) else (none))) else (none)) else (none)) = some r := by first | (rw [hji11] at H; exact H) | (simp only [hji11] at H ⊢; exact H)
        (try rw [hji11] at A10)
        have hji11_ : (if (wrap64 (1 + (wrap64 (Int.tmod a1 8)))) < (l0.length : Int) then (wrap64 (1 + (wrap64 (Int.tmod a1 8)))) else (l0.length : Int)) = ji11 := hji11
        by_cases c12 : 0 ≤ (ji11)
        · rw [if_pos c12] at H
          have c12b0 := eq_true c12
          have c12b1 : decide (0 ≤ (ji11)) = true := decide_eq_true c12
          clear c12
          by_cases c13 : (ji11) ≤ (l0.length : Int)
          · rw [if_pos c13] at H
            have c13b0 := eq_true c13
            have c13b1 : decide ((ji11) ≤ (l0.length : Int)) = true := decide_eq_true c13
            clear c13
            replace H := Option.bind_eq_some_iff.mp H
            obtain ⟨t228, A140, H⟩ := H
            replace H : (if 0 ≤ (mn (ji11) (wrap64 (1 + (wrap64 (Int.tmod a2 8))))) then (if (mn (ji11) (wrap64 (1 + (wrap64 (Int.tmod a2 8))))) ≤ (l0.length : Int) then ((certpathlaw04_id.f kj4 (l0.take ((mn (ji11) (wrap64 (1 + (wrap64 (Int.tmod a2 8))))) : Int).toNat)).bind fun t230 => (if t226.size + 1 ≤ 9223372036854775807 then ((some (([(⟨t226, t228⟩ : S33), (⟨t228, t226⟩ : S33), (⟨t228, t230⟩ : S33), (⟨t230, t228⟩ : S33), (⟨t226, a3⟩ : S33), (⟨a3, t226⟩ : S33), (⟨t226, t226 ++ (⟨#[48]⟩ : ByteArray)⟩ : S33)] : List (S33)) : List (S33))).bind fun y231 => (certpathlaw04_OidUnder.l0 kj4 t226 t228 t230 y231 (y231.length : Int) 0)) else (none))) else (none)) else (none)) = some r := H
            have A14 := Aside0.mk A140
            clear A140
            obtain ⟨ji16, hji16⟩ : ∃ j_ : Int, (mn (ji11) (wrap64 (1 + (wrap64 (Int.tmod a2 8))))) = j_ := ⟨_, rfl⟩
            replace H : (if 0 ≤ (ji16) then (if (ji16) ≤ (l0.length : Int) then ((certpathlaw04_id.f kj4 (l0.take ((ji16) : Int).toNat)).bind fun t230 => (if t226.size + 1 ≤ 9223372036854775807 then ((some (([(⟨t226, t228⟩ : S33), (⟨t228, t226⟩ : S33), (⟨t228, t230⟩ : S33), (⟨t230, t228⟩ : S33), (⟨t226, a3⟩ : S33), (⟨a3, t226⟩ : S33), (⟨t226, t226 ++ (⟨#[48]⟩ : ByteArray)⟩ : S33)] : List (S33)) : List (S33))).bind fun y231 => (certpathlaw04_OidUnder.l0 kj4 t226 t228 t230 y231 (y231.length : Int) 0)) else (none))) else (none)) else (none)) = some r := by first | (rw [hji16] at H; exact H) | (simp only [hji16] at H ⊢; exact H)
            (try rw [hji16] at A10)
            (try rw [hji16] at A14)
            have hji16_ : (if (wrap64 (1 + (wrap64 (Int.tmod a2 8)))) < (ji11) then (wrap64 (1 + (wrap64 (Int.tmod a2 8)))) else (ji11)) = ji16 := hji16
            by_cases c17 : 0 ≤ (ji16)
            · rw [if_pos c17] at H
              have c17b0 := eq_true c17
              have c17b1 : decide (0 ≤ (ji16)) = true := decide_eq_true c17
              clear c17
              by_cases c18 : (ji16) ≤ (l0.length : Int)
              · rw [if_pos c18] at H
                have c18b0 := eq_true c18
                have c18b1 : decide ((ji16) ≤ (l0.length : Int)) = true := decide_eq_true c18
                clear c18
                replace H := Option.bind_eq_some_iff.mp H
                obtain ⟨t230, A190, H⟩ := H
                replace H : (if t226.size + 1 ≤ 9223372036854775807 then ((some (([(⟨t226, t228⟩ : S33), (⟨t228, t226⟩ : S33), (⟨t228, t230⟩ : S33), (⟨t230, t228⟩ : S33), (⟨t226, a3⟩ : S33), (⟨a3, t226⟩ : S33), (⟨t226, t226 ++ (⟨#[48]⟩ : ByteArray)⟩ : S33)] : List (S33)) : List (S33))).bind fun y231 => (certpathlaw04_OidUnder.l0 kj4 t226 t228 t230 y231 (y231.length : Int) 0)) else (none)) = some r := H
                have A19 := Aside0.mk A190
                clear A190
                by_cases c20 : t226.size + 1 ≤ 9223372036854775807
                · rw [if_pos c20] at H
                  have c20b0 := eq_true c20
                  have c20b1 : decide (t226.size + 1 ≤ 9223372036854775807) = true := decide_eq_true c20
                  try have c20b2 : (9223372036854775807 < t226.size + 1) = False := eq_false (Nat.not_lt.2 c20)
                  obtain ⟨y231, hy231⟩ : ∃ y_ : List (S33), y_ = (([(⟨t226, t228⟩ : S33), (⟨t228, t226⟩ : S33), (⟨t228, t230⟩ : S33), (⟨t230, t228⟩ : S33), (⟨t226, a3⟩ : S33), (⟨a3, t226⟩ : S33), (⟨t226, t226 ++ (⟨#[48]⟩ : ByteArray)⟩ : S33)] : List (S33))) := ⟨_, rfl⟩
                  replace H : (certpathlaw04_OidUnder.l0 kj4 t226 t228 t230 y231 (y231.length : Int) 0) = some r := by first | (rw [hy231]; with_reducible exact H) | (have H2_ := (Option.bind_some _ _).symm.trans H; rw [hy231]; with_reducible exact H2_) | (have H2_ := (Option.bind_some _ _).symm.trans H; with_reducible exact H2_) | with_reducible exact H | (rw [hy231]; exact H) | exact H
                  have Ny231 := Aside0.mk hy231
                  clear hy231
                  have H' := Aside0.mk H
                  clear H
                  go_wp2_with (first | ((with_reducible refine gate_callee (f := 14) rfl ?_); refine goesL_ (some 24) rfl rfl Tryd.func14 (by kernel_rfl) rfl #[.slice A0 l0.length c0] rfl (by (try simp only [List.map_toArray, List.map_cons, List.map_nil]); first | done | rfl | (simp only [List.length_drop, List.length_take]; rfl)) ?_; (with_reducible refine (certpathlaw04_id.calls kj4 _ _ l0 t226 _ ?side1 ?side2 ?side3 A10.out).mono ?_); (case side1 => refine Ext.G.step ?_ hG_; repeat (first | (with_reducible first | exact HB.out | apply below_alloc | apply pw_below_drewN | apply below_drew1) | exact HB.out)); (case side2 => repeat (first | exact (Kd.C_below HR0.out HB.out) | (with_reducible refine Kd.C_alloc ?_ _) | (with_reducible refine Kd.C_drewN ?_ _) | (with_reducible refine Kd.C_drew ?_))); (case side3 => exact HC0.out); rintro e w21 ⟨rfl, hb⟩; refine ⟨_, rfl, ?_⟩; have n0_ := Aside0.mk (below_step (by repeat (first | (with_reducible first | exact HB.out | apply below_alloc | apply pw_below_drewN | apply below_drew1) | exact HB.out)) hb); clear HB; have HB := n0_; clear n0_; (try clear hb); (try clear hb2); (try clear hk); (try clear hi); obtain ⟨i022, hi022, _, hsz22, _⟩ := info_parts info44; obtain ⟨hcut22, hA22, hC22⟩ := print_take_of (P := Tryd.prog) (Value.int .u32) 0 31 44 .i64 Tryd.underlying31 hi022 hsz22 A0 c0 l0 (ji11) (of_decide_eq_true (by first | (with_reducible assumption) | assumption)) (of_decide_eq_true (by first | (with_reducible assumption) | assumption)) HC0.out; have HR227 := Aside0.mk (Kd.C_of_reads (h1 := fun _ => rfl) (hA22 _ (Kd.reads_of_C HR0.out))); have HC227 := Aside0.mk hC22; clear hA22 hC22 hi022 hsz22) | ((with_reducible refine gate_callee (f := 14) rfl ?_); refine goesL_ (some 34) rfl rfl Tryd.func14 (by kernel_rfl) rfl #[.slice A0 (l0.take ((ji11) : Int).toNat).length c0] rfl (by (try simp only [List.map_toArray, List.map_cons, List.map_nil]); first | done | (rw [show (l0.take ((ji11) : Int).toNat).length = (ji11).toNat from (by rw [List.length_take]; have h_ : ((ji11) : Int) ≤ (l0.length : Int) := of_decide_eq_true (by first | (with_reducible assumption) | assumption); omega)] <;> rfl) | (simp only [hji11]; rfl) | rfl | (simp only [List.length_drop, List.length_take]; rfl)) ?_; (with_reducible refine (certpathlaw04_id.calls kj4 _ _ (l0.take ((ji11) : Int).toNat) t228 _ ?side1 ?side2 ?side3 A14.out).mono ?_); (case side1 => refine Ext.G.step ?_ hG_; repeat (first | (with_reducible first | exact HB.out | apply below_alloc | apply pw_below_drewN | apply below_drew1) | exact HB.out)); (case side2 => repeat (first | exact (Kd.C_below HR227.out HB.out) | (with_reducible refine Kd.C_alloc ?_ _) | (with_reducible refine Kd.C_drewN ?_ _) | (with_reducible refine Kd.C_drew ?_))); (case side3 => exact HC227.out); rintro e w23 ⟨rfl, hb⟩; refine ⟨_, rfl, ?_⟩; have n0_ := Aside0.mk (below_step (by repeat (first | (with_reducible first | exact HB.out | apply below_alloc | apply pw_below_drewN | apply below_drew1) | exact HB.out)) hb); clear HB; have HB := n0_; clear n0_; (try clear hb); (try clear hb2); (try clear hk); (try clear hi); obtain ⟨i024, hi024, _, hsz24, _⟩ := info_parts info44; obtain ⟨hcut24, hA24, hC24⟩ := print_take_of (P := Tryd.prog) (Value.int .u32) 0 31 44 .i64 Tryd.underlying31 hi024 hsz24 A0 c0 l0 (ji16) (of_decide_eq_true (by first | (with_reducible assumption) | assumption)) (of_decide_eq_true (by first | (with_reducible assumption) | assumption)) HC0.out; have HR229 := Aside0.mk (Kd.C_of_reads (h1 := fun _ => rfl) (hA24 _ (Kd.reads_of_C HR0.out))); have HC229 := Aside0.mk hC24; clear hA24 hC24 hi024 hsz24) | ((with_reducible refine gate_callee (f := 14) rfl ?_); refine goesL_ (some 48) rfl rfl Tryd.func14 (by kernel_rfl) rfl #[.slice A0 (l0.take ((ji16) : Int).toNat).length c0] rfl (by (try simp only [List.map_toArray, List.map_cons, List.map_nil]); first | done | (rw [show (l0.take ((ji16) : Int).toNat).length = (ji16).toNat from (by rw [List.length_take]; have h_ : ((ji16) : Int) ≤ (l0.length : Int) := of_decide_eq_true (by first | (with_reducible assumption) | assumption); omega)] <;> rfl) | (simp only [hji16]; rfl) | rfl | (simp only [List.length_drop, List.length_take]; rfl)) ?_; (with_reducible refine (certpathlaw04_id.calls kj4 _ _ (l0.take ((ji16) : Int).toNat) t230 _ ?side1 ?side2 ?side3 A19.out).mono ?_); (case side1 => refine Ext.G.step ?_ hG_; repeat (first | (with_reducible first | exact HB.out | apply below_alloc | apply pw_below_drewN | apply below_drew1) | exact HB.out)); (case side2 => repeat (first | exact (Kd.C_below HR229.out HB.out) | (with_reducible refine Kd.C_alloc ?_ _) | (with_reducible refine Kd.C_drewN ?_ _) | (with_reducible refine Kd.C_drew ?_))); (case side3 => exact HC229.out); rintro e w25 ⟨rfl, hb⟩; refine ⟨_, rfl, ?_⟩; have n0_ := Aside0.mk (below_step (by repeat (first | (with_reducible first | exact HB.out | apply below_alloc | apply pw_below_drewN | apply below_drew1) | exact HB.out)) hb); clear HB; have HB := n0_; clear n0_; (try clear hb); (try clear hb2); (try clear hk); (try clear hi)) | ((with_reducible refine gate_dst (N := 71) rfl ?_); (try (refine gate_guard (by rfl) ?_; dsimp only)); refine Kd.R_lit k33 _ 33 ?hg (N := 71) ?hd (xs := ([(⟨t226, t228⟩ : S33), (⟨t228, t226⟩ : S33), (⟨t228, t230⟩ : S33), (⟨t230, t228⟩ : S33), (⟨t226, a3⟩ : S33), (⟨a3, t226⟩ : S33), (⟨t226, t226 ++ (⟨#[48]⟩ : ByteArray)⟩ : S33)] : List (S33))) (inner := [.string t226, .string t228, .string t228, .string t226, .string t228, .string t230, .string t230, .string t228, .string t226, .string a3, .string a3, .string t226, .string t226, .string (t226 ++ (⟨#[48]⟩ : ByteArray))]) (ok := fun _ => True) (okp := fun _ => True) ?hr ?hp (fun _ hk => hk) trivial (Below.refl _ _) (Nat.le_refl _) (by simp) ?_; (case hd => rfl); (case hg => rfl); (case hr => first | (go_simp; done) | (go_simp; rfl)); (case hp => exact (Reps.c2 (show Kd.M k33 _ _ _ (⟨t226, t228⟩ : S33) [.string t226, .string t228] from (k33_mkM _ _ _ (⟨t226, t228⟩ : S33) )) (Reps.c2 (show Kd.M k33 _ _ _ (⟨t228, t226⟩ : S33) [.string t228, .string t226] from (k33_mkM _ _ _ (⟨t228, t226⟩ : S33) )) (Reps.c2 (show Kd.M k33 _ _ _ (⟨t228, t230⟩ : S33) [.string t228, .string t230] from (k33_mkM _ _ _ (⟨t228, t230⟩ : S33) )) (Reps.c2 (show Kd.M k33 _ _ _ (⟨t230, t228⟩ : S33) [.string t230, .string t228] from (k33_mkM _ _ _ (⟨t230, t228⟩ : S33) )) (Reps.c2 (show Kd.M k33 _ _ _ (⟨t226, a3⟩ : S33) [.string t226, .string a3] from (k33_mkM _ _ _ (⟨t226, a3⟩ : S33) )) (Reps.c2 (show Kd.M k33 _ _ _ (⟨a3, t226⟩ : S33) [.string a3, .string t226] from (k33_mkM _ _ _ (⟨a3, t226⟩ : S33) )) (Reps.c2 (show Kd.M k33 _ _ _ (⟨t226, t226 ++ (⟨#[48]⟩ : ByteArray)⟩ : S33) [.string t226, .string (t226 ++ (⟨#[48]⟩ : ByteArray))] from (k33_mkM _ _ _ (⟨t226, t226 ++ (⟨#[48]⟩ : ByteArray)⟩ : S33) )) (Reps.none _ _))))))))); intro v232 w26 ho27 hb hg_ hnew_; clear hg_ hnew_; (first | rw [← Ny231.out] at ho27 | (simp only [Int.reduceToNat] at ho27; rw [← Ny231.out] at ho27)); have n0_ := Aside0.mk (Kd.R_lower ho27 (below_size (by repeat (first | (with_reducible first | exact HB.out | apply below_alloc | apply pw_below_drewN | apply below_drew1) | exact HB.out)))); have n1_ := Aside0.mk (below_step (by repeat (first | (with_reducible first | exact HB.out | apply below_alloc | apply pw_below_drewN | apply below_drew1) | exact HB.out)) hb); clear HB; have HO233 := n0_; have HB := n1_; clear n0_ n1_; clear hb ho27; obtain ⟨Ao28, co28, eo28⟩ := Kd.R_slice HO233.out; subst eo28))
                  go_loopg [73] kj4 (fun kq v73 w' => ∃ (x73_2 : Int), v73 = .int .i64 x73_2 ∧ Aside0 (certpathlaw04_OidUnder.l0 kq t226 t228 t230 y231 (y231.length : Int) x73_2 = some r) ∧ Aside0 (kq ≤ kj4) ∧ Aside0 (Kd.R k33 33 w' w.heap.size (fun _ => True) (.slice Ao28 y231.length co28) y231) ∧ Aside0 (Below w.heap.size w w'))
                  case atStart => exact ⟨(0), (by first | rfl | (simp; done) | (simp [*]; done)), H', ⟨Nat.le_refl _⟩, ⟨by (with_reducible repeat (first | apply Kd.R_alloc | apply Kd.R_drewN | apply Kd.R_drew)); exact HO233.out⟩, ⟨by repeat (first | (with_reducible first | exact HB.out | apply below_alloc | apply pw_below_drewN | apply below_drew1) | exact HB.out)⟩⟩
                  case round =>
                    clear H'
                    try clear c1
                    try clear c2
                    try clear p2
                    try clear c4
                    try clear c6
                    try clear c6b0
                    try clear c6b1
                    try clear p6
                    try clear c7
                    try clear c8
                    try clear c12
                    try clear c12b0
                    try clear c12b1
                    try clear c13
                    try clear c13b0
                    try clear c13b1
                    try clear c14
                    try clear c15
                    try clear c15b0
                    try clear c17
                    try clear c17b0
                    try clear c17b1
                    try clear c18
                    try clear c18b0
                    try clear c18b1
                    try clear c20
                    try clear c20b0
                    try clear c20b1
                    try clear c20b2
                    try clear p2
                    obtain ⟨x73_2, rfl, HA, HK2, HO_71, HB⟩ := hrel
                    cases gk with
                    | zero => exact absurd HA.out (by simp [certpathlaw04_OidUnder.l0])
                    | succ k2 =>
                      have H := HA.out
                      clear HA
                      simp only [certpathlaw04_OidUnder.l0] at H
                      by_cases c29 : x73_2 < (y231.length : Int)
                      · rw [if_pos c29] at H
                        have c29b0 : decide (x73_2 < (y231.length : Int)) = true := decide_eq_true c29
                        clear c29
                        by_cases c30 : 0 ≤ x73_2
                        · rw [if_pos c30] at H
                          have c30b0 : decide (0 ≤ x73_2) = true := decide_eq_true c30
                          clear c30
                          by_cases c31 : x73_2 < (y231.length : Int)
                          · rw [if_pos c31] at H
                            have c31b0 : decide (x73_2 < (y231.length : Int)) = true := decide_eq_true c31
                            clear c31
                            replace H := Option.bind_eq_some_iff.mp H
                            obtain ⟨t236, A320, H⟩ := H
                            replace H : ((certpathref01_UnderOID.f k2 ((rd_T33 y231 x73_2).f0) ((rd_T33 y231 x73_2).f1)).bind fun t237 => (if (t236 != t237) = true then (some false) else (certpathlaw04_OidUnder.l0 k2 t226 t228 t230 y231 (y231.length : Int) (wrap64 (x73_2 + 1))))) = some r := H
                            have A32 := Aside0.mk A320
                            clear A320
                            replace H := Option.bind_eq_some_iff.mp H
                            obtain ⟨t237, A330, H⟩ := H
                            replace H : (if (t236 != t237) = true then (some false) else (certpathlaw04_OidUnder.l0 k2 t226 t228 t230 y231 (y231.length : Int) (wrap64 (x73_2 + 1)))) = some r := H
                            have A33 := Aside0.mk A330
                            clear A330
                            by_cases c34 : (t236 != t237) = true
                            · rw [if_pos c34] at H
                              have c34b0 : (t236 != t237) = true := c34
                              (try (have c34b1 : decide (t236 = t237) = false := by simpa using c34))
                              (try (have c34b2 : (t236 == t237) = false := by simpa using c34))
                              (try (have c34b3 : ¬ (t236 = t237) := by simpa using c34))
                              clear c34
                              obtain rfl := Option.some.inj H
                              have p234 : 0 ≤ (x73_2 : Int) := of_decide_eq_true (by first | (with_reducible assumption) | assumption)
                              have q234 : x73_2 < (y231.length : Int) := of_decide_eq_true (by first | (with_reducible assumption) | assumption)
                              obtain ⟨ad234, e234, hx234_0, hx234_1⟩ := at_T33 (Kd.R_reads' HO_71.out).2.2 x73_2 p234 q234
                              cases e234
                              replace p234 := eq_true p234
                              replace q234 := eq_true q234
                              try go_wp2_with (first | ((with_reducible refine gate_dst (N := 13) rfl ?_); (try (refine gate_guard (by rfl) ?_; dsimp only)); refine box_event ?hg (N := 13) ?hd (cs := #[.string (⟨#[]⟩ : ByteArray), .string (⟨#[]⟩ : ByteArray)]) (t := 33) ?hr ?_; (case hd => rfl); (case hg => rfl); (case hr => first | (go_simp; done) | (go_simp; rfl)); intro gb235 hg w35 hbox hb; have n0_ := Aside0.mk (Kd.R_below (Kd.R_elderB (by (with_reducible repeat (first | apply Kd.R_alloc | apply Kd.R_drewN | apply Kd.R_drew)); exact HO_71.out) gb235 (Nat.le_of_eq hg.symm)) hb); have n1_ := Aside0.mk (below_step (by repeat (first | (with_reducible first | exact HB.out | apply below_alloc | apply pw_below_drewN | apply below_drew1) | exact HB.out)) hb); have n2_ := Aside0.mk (hbox); have n3_ := Aside0.mk ((by rw [hg]; exact (below_size (by repeat (first | (with_reducible first | exact HB.out | apply below_alloc | apply pw_below_drewN | apply below_drew1) | exact HB.out))) : w.heap.size ≤ gb235)); have n4_ := Aside0.mk ((by rw [hg]; exact (below_size (by repeat (first | (with_reducible first | exact HB.out | apply below_alloc | apply pw_below_drewN | apply below_drew1) | exact HB.out))) : w.heap.size ≤ gb235)); clear HO_71; clear HB; have HO_71 := n0_; have HB := n1_; have BK235 := n2_; have GW235 := n3_; have GE235 := n4_; clear n0_ n1_ n2_ n3_ n4_; clear hb hbox hg; have hcz36_0 : w35.cell? ⟨gb235, 0, none⟩ = some (.string (⟨#[]⟩ : ByteArray)) := (blk_cell BK235.out 0).trans rfl; have hcz36_1 : w35.cell? ⟨gb235, 1, none⟩ = some (.string (⟨#[]⟩ : ByteArray)) := (blk_cell BK235.out 1).trans rfl; have hfz36_0 := blk_frozen BK235.out 0; have hfz36_1 := blk_frozen BK235.out 1))
                              have n0_ : Aside0 (Kd.R k33 33 ((w35.setCell ⟨gb235, 0, none⟩ (.string ((rd_T33 y231 x73_2).f0))).setCell ⟨gb235, 1, none⟩ (.string ((rd_T33 y231 x73_2).f1))) w.heap.size (fun k_ => k_ ≠ gb235) (.slice (some ad234) y231.length co28) y231) := ⟨by (with_reducible repeat (first | apply Kd.R_alloc | apply Kd.R_drewN | apply Kd.R_drew)); exact Kd.R_mono (Kd.R_far (p := ⟨gb235, 1, none⟩) (Kd.R_far (p := ⟨gb235, 0, none⟩) (Kd.R_mono HO_71.out (fun k_ hk => (⟨hk, hk.2⟩ : _ ∧ k_ ≠ gb235))) (fun _ hk => hk.2) (.string ((rd_T33 y231 x73_2).f0))) (fun _ hk => hk.2) (.string ((rd_T33 y231 x73_2).f1))) (fun _ hk => hk.1.2)⟩
                              have n1_ : Aside0 (((w35.setCell ⟨gb235, 0, none⟩ (.string ((rd_T33 y231 x73_2).f0))).setCell ⟨gb235, 1, none⟩ (.string ((rd_T33 y231 x73_2).f1))).heap[gb235]? = some (.cells #[.string ((rd_T33 y231 x73_2).f0), .string ((rd_T33 y231 x73_2).f1)] 33 (0, 0))) := ⟨by (with_reducible repeat (first | refine blk_drewN ?_ _ | refine blk_drew ?_ | refine blk_alloc ?_ _)); refine blk_put (cs := #[.string ((rd_T33 y231 x73_2).f0), .string (⟨#[]⟩ : ByteArray)]) ?_ 1 _ rfl; (with_reducible repeat (first | refine blk_drewN ?_ _ | refine blk_drew ?_ | refine blk_alloc ?_ _)); refine blk_put (cs := #[.string (⟨#[]⟩ : ByteArray), .string (⟨#[]⟩ : ByteArray)]) ?_ 0 _ rfl; (with_reducible repeat (first | refine blk_drewN ?_ _ | refine blk_drew ?_ | refine blk_alloc ?_ _)); exact BK235.out⟩
                              have n2_ : Aside0 (Below w.heap.size w ((w35.setCell ⟨gb235, 0, none⟩ (.string ((rd_T33 y231 x73_2).f0))).setCell ⟨gb235, 1, none⟩ (.string ((rd_T33 y231 x73_2).f1)))) := ⟨by repeat (first | (with_reducible first | exact HB.out | apply below_alloc | apply pw_below_drewN | apply below_drew1 | refine below_set ?_ GE235.out) | exact HB.out)⟩
                              (try clear HO_71)
                              (try clear BK235)
                              (try clear HB)
                              generalize ((w35.setCell ⟨gb235, 0, none⟩ (.string ((rd_T33 y231 x73_2).f0))).setCell ⟨gb235, 1, none⟩ (.string ((rd_T33 y231 x73_2).f1))) = w37 at n0_ n1_ n2_ ⊢
                              have HO_71 := n0_
                              have BK235 := n1_
                              have HB := n2_
                              clear n0_ n1_ n2_
                              have n0_ := Aside0.mk (Kd.R_drew HO_71.out)
                              have n1_ := Aside0.mk (blk_drew BK235.out)
                              have n2_ := Aside0.mk (below_drew1 HB.out)
                              clear HO_71
                              clear BK235
                              clear HB
                              have HO_71 := n0_
                              have BK235 := n1_
                              have HB := n2_
                              clear n0_ n1_ n2_
                              refine start_ (n := 11) (S := fun w' => w'.cell? ⟨gb235, 0, none⟩ = some (.string ((rd_T33 y231 x73_2).f0)) ∧ w'.cell? ⟨gb235, 1, none⟩ = some (.string ((rd_T33 y231 x73_2).f1))) (ds := []) #[false, false, false, false, false, false, false, false, false, false, false] (by kernel_rfl) rfl rfl ⟨(blk_cell BK235.out 0).trans rfl, (blk_cell BK235.out 1).trans rfl⟩ (fun hHeld => ?_); refine with_tabW certpathlaw04_OidUnder.tab9 certpathlaw04_OidUnder.bits9 (fun HT_ HW_ => ?_)
                              generalize w37.drew = w38 at HO_71 BK235 HB hHeld ⊢
                              refine pure_ (i := 0) (N := some 77) (v := ?_) (a' := ?_) #[true, false, false, false, false, false, false, false, false, false, false] rfl rfl (any_of HT_.out (by kernel_rfl)) (fun _ _ _ h => h) (Or.inl ⟨by rfl, ?_⟩) ?_ ?_
                              rotate_left
                              · intro w'
                                go_simp
                                with_reducible rfl
                              rotate_left
                              · simp only [Act.put, List.setIfInBounds_toArray, List.set_cons_zero, List.set_cons_succ, i64_w, i32_w]
                                rfl
                              refine pure_ (i := 2) (N := some 79) (v := ?_) (a' := ?_) #[true, false, true, false, false, false, false, false, false, false, false] rfl rfl (any_of HT_.out (by kernel_rfl)) (fun _ _ _ h => h) (Or.inl ⟨by rfl, ?_⟩) ?_ ?_
                              rotate_left
                              · intro w'
                                go_simp
                                with_reducible rfl
                              rotate_left
                              · simp only [Act.put, List.setIfInBounds_toArray, List.set_cons_zero, List.set_cons_succ, i64_w, i32_w]
                                rfl
                              refine pure_ (i := 5) (N := some 82) (v := ?_) (a' := ?_) #[true, false, true, false, false, true, false, false, false, false, false] rfl rfl (any_of HT_.out (by kernel_rfl)) (fun _ _ _ h => h) (Or.inl ⟨by rfl, ?_⟩) ?_ ?_
                              rotate_left
                              · intro w'
                                go_simp
                                with_reducible rfl
                              rotate_left
                              · simp only [Act.put, List.setIfInBounds_toArray, List.set_cons_zero, List.set_cons_succ, i64_w, i32_w]
                                rfl
                              refine pure_ (i := 7) (N := some 84) (v := ?_) (a' := ?_) #[true, false, true, false, false, true, false, true, false, false, false] rfl rfl (any_of HT_.out (by kernel_rfl)) (fun _ _ _ h => h) (Or.inl ⟨by rfl, ?_⟩) ?_ ?_
                              rotate_left
                              · intro w'
                                go_simp
                                with_reducible rfl
                              rotate_left
                              · simp only [Act.put, List.setIfInBounds_toArray, List.set_cons_zero, List.set_cons_succ, i64_w, i32_w]
                                rfl
                              refine take_ (i := 1) (N := some 78) (v := ?_) (a' := ?_) #[true, true, true, false, false, true, false, true, false, false, false] rfl rfl (take_ofW HT_.out HW_.out (by kernel_rfl)) (fun _ _ _ h => h) (Or.inl ⟨by rfl, ?_⟩) hHeld ?_ ?_
                              rotate_left
                              · rintro w' ⟨s0, s1⟩
                                go_simp
                                with_reducible rfl
                              rotate_left
                              · simp only [Act.put, List.setIfInBounds_toArray, List.set_cons_zero, List.set_cons_succ, i64_w, i32_w]
                                rfl
                              refine take_ (i := 3) (N := some 80) (v := ?_) (a' := ?_) #[true, true, true, true, false, true, false, true, false, false, false] rfl rfl (take_ofW HT_.out HW_.out (by kernel_rfl)) (fun _ _ _ h => h) (Or.inl ⟨by rfl, ?_⟩) hHeld ?_ ?_
                              rotate_left
                              · rintro w' ⟨s0, s1⟩
                                go_simp
                                with_reducible rfl
                              rotate_left
                              · simp only [Act.put, List.setIfInBounds_toArray, List.set_cons_zero, List.set_cons_succ, i64_w, i32_w]
                                rfl
                              refine take_ (i := 6) (N := some 83) (v := ?_) (a' := ?_) #[true, true, true, true, false, true, true, true, false, false, false] rfl rfl (take_ofW HT_.out HW_.out (by kernel_rfl)) (fun _ _ _ h => h) (Or.inl ⟨by rfl, ?_⟩) hHeld ?_ ?_
                              rotate_left
                              · rintro w' ⟨s0, s1⟩
                                go_simp
                                with_reducible rfl
                              rotate_left
                              · simp only [Act.put, List.setIfInBounds_toArray, List.set_cons_zero, List.set_cons_succ, i64_w, i32_w]
                                rfl
                              refine take_ (i := 8) (N := some 85) (v := ?_) (a' := ?_) #[true, true, true, true, false, true, true, true, true, false, false] rfl rfl (take_ofW HT_.out HW_.out (by kernel_rfl)) (fun _ _ _ h => h) (Or.inl ⟨by rfl, ?_⟩) hHeld ?_ ?_
                              rotate_left
                              · rintro w' ⟨s0, s1⟩
                                go_simp
                                with_reducible rfl
                              rotate_left
                              · simp only [Act.put, List.setIfInBounds_toArray, List.set_cons_zero, List.set_cons_succ, i64_w, i32_w]
                                rfl
                              refine one_ (i := 4) (N := some 81) #[true, true, true, true, true, true, true, true, true, false, false] rfl rfl (one_of HT_.out (by kernel_rfl)) (by decide) (fun K hK => ?_)
                              refine goes_ Tryd.func15 (by kernel_rfl) rfl #[.string ((rd_T33 y231 x73_2).f0), .string ((rd_T33 y231 x73_2).f1)] (by rfl) rfl rfl (by (try simp only [List.map_toArray, List.map_cons, List.map_nil]); first | done | rfl | (simp only [List.length_drop, List.length_take]; rfl)) ?_
                              with_reducible refine (oid_Under.calls k2 ((rd_T33 y231 x73_2).f0) ((rd_T33 y231 x73_2).f1) t236 _ ?side1 A32.out).mono ?_
                              (case side1 => refine Ext.G.step ?_ hG_; repeat (first | (with_reducible first | exact HB.out | apply below_alloc | apply pw_below_drewN | apply below_drew1 | refine below_set ?_ GE235.out) | exact HB.out))
                              rintro e w39 ⟨rfl, hb⟩
                              refine ⟨_, rfl, ?_⟩
                              have n0_ := Aside0.mk (Kd.R_below (by (with_reducible repeat (first | apply Kd.R_alloc | apply Kd.R_drewN | apply Kd.R_drew)); exact HO_71.out) hb)
                              have n1_ := Aside0.mk (blk_below (g := gb235) (o := .cells #[.string ((rd_T33 y231 x73_2).f0), .string ((rd_T33 y231 x73_2).f1)] 33 (0, 0)) (by (with_reducible repeat (first | refine blk_drewN ?_ _ | refine blk_drew ?_ | refine blk_alloc ?_ _)); exact BK235.out) hb)
                              have n2_ := Aside0.mk (below_step (by repeat (first | (with_reducible first | exact HB.out | apply below_alloc | apply pw_below_drewN | apply below_drew1 | refine below_set ?_ GE235.out) | exact HB.out)) hb)
                              clear HO_71
                              clear BK235
                              clear HB
                              have HO_71 := n0_
                              have BK235 := n1_
                              have HB := n2_
                              clear n0_ n1_ n2_
                              (try clear hb)
                              (try clear hb2)
                              (try clear hk)
                              (try clear hi)
                              refine hK.out _ _ ⟨(blk_cell BK235.out 0).trans rfl, (blk_cell BK235.out 1).trans rfl⟩ (fun hHeld => ?_)
                              clear hK K
                              refine norm_ (a' := ?_) ?_ ?_
                              rotate_left
                              · show Act.put _ (some 81) _ = _
                                simp only [Act.put, List.setIfInBounds_toArray, List.set_cons_zero, List.set_cons_succ, i64_w, i32_w]
                                rfl
                              refine one_ (i := 9) (N := some 86) #[true, true, true, true, true, true, true, true, true, true, false] rfl rfl (one_of HT_.out (by kernel_rfl)) (by decide) (fun K hK => ?_)
                              refine goes_ Tryd.func16 (by kernel_rfl) rfl #[.string ((rd_T33 y231 x73_2).f0), .string ((rd_T33 y231 x73_2).f1)] (by rfl) rfl rfl (by (try simp only [List.map_toArray, List.map_cons, List.map_nil]); first | done | rfl | (simp only [List.length_drop, List.length_take]; rfl)) ?_
                              with_reducible refine (certpathref01_UnderOID.calls k2 ((rd_T33 y231 x73_2).f0) ((rd_T33 y231 x73_2).f1) t237 _ ?side1 A33.out).mono ?_
                              (case side1 => refine Ext.G.step ?_ hG_; repeat (first | (with_reducible first | exact HB.out | apply below_alloc | apply pw_below_drewN | apply below_drew1 | refine below_set ?_ GE235.out) | exact HB.out))
                              rintro e w40 ⟨rfl, hb⟩
                              refine ⟨_, rfl, ?_⟩
                              have n0_ := Aside0.mk (Kd.R_below (by (with_reducible repeat (first | apply Kd.R_alloc | apply Kd.R_drewN | apply Kd.R_drew)); exact HO_71.out) hb)
                              have n1_ := Aside0.mk (blk_below (g := gb235) (o := .cells #[.string ((rd_T33 y231 x73_2).f0), .string ((rd_T33 y231 x73_2).f1)] 33 (0, 0)) (by (with_reducible repeat (first | refine blk_drewN ?_ _ | refine blk_drew ?_ | refine blk_alloc ?_ _)); exact BK235.out) hb)
                              have n2_ := Aside0.mk (below_step (by repeat (first | (with_reducible first | exact HB.out | apply below_alloc | apply pw_below_drewN | apply below_drew1 | refine below_set ?_ GE235.out) | exact HB.out)) hb)
                              clear HO_71
                              clear BK235
                              clear HB
                              have HO_71 := n0_
                              have BK235 := n1_
                              have HB := n2_
                              clear n0_ n1_ n2_
                              (try clear hb)
                              (try clear hb2)
                              (try clear hk)
                              (try clear hi)
                              refine hK.out _ _ ⟨(blk_cell BK235.out 0).trans rfl, (blk_cell BK235.out 1).trans rfl⟩ (fun hHeld => ?_)
                              clear hK K
                              refine norm_ (a' := ?_) ?_ ?_
                              rotate_left
                              · show Act.put _ (some 86) _ = _
                                simp only [Act.put, List.setIfInBounds_toArray, List.set_cons_zero, List.set_cons_succ, i64_w, i32_w]
                                rfl
                              refine pure_ (i := 10) (N := some 87) (v := ?_) (a' := ?_) #[true, true, true, true, true, true, true, true, true, true, true] rfl rfl (any_of HT_.out (by kernel_rfl)) (fun _ _ _ h => h) (Or.inl ⟨by rfl, ?_⟩) ?_ ?_
                              rotate_left
                              · intro w'
                                go_simp
                                with_reducible rfl
                              rotate_left
                              · simp only [Act.put, List.setIfInBounds_toArray, List.set_cons_zero, List.set_cons_succ, i64_w, i32_w]
                                rfl
                              refine done_ (done_of HT_.out (by kernel_rfl)) ?_
                              try go_wp2
                              go_ret
                              exact ⟨by first | rfl | (simp [errW_none, errW_some] <;> rfl) | (simp only [← hji11, ← hji16]; first | rfl | (simp [errW_none, errW_some] <;> rfl)) | (simp [*, errW_none, errW_some] <;> rfl), by repeat (first | (with_reducible first | exact HB.out | apply below_alloc | apply pw_below_drewN | apply below_drew1 | refine below_set ?_ GE235.out) | exact HB.out)⟩
                            · rw [if_neg c34] at H
                              have c34b0 : (t236 != t237) = false := by simpa using c34
                              (try (have c34b1 : decide (t236 = t237) = true := by simpa using c34))
                              (try (have c34b2 : (t236 == t237) = true := by simpa using c34))
                              clear c34
                              have H' := Aside0.mk H
                              clear H
                              have p234 : 0 ≤ (x73_2 : Int) := of_decide_eq_true (by first | (with_reducible assumption) | assumption)
                              have q234 : x73_2 < (y231.length : Int) := of_decide_eq_true (by first | (with_reducible assumption) | assumption)
                              obtain ⟨ad234, e234, hx234_0, hx234_1⟩ := at_T33 (Kd.R_reads' HO_71.out).2.2 x73_2 p234 q234
                              cases e234
                              replace p234 := eq_true p234
                              replace q234 := eq_true q234
                              try go_wp2_with (first | ((with_reducible refine gate_dst (N := 13) rfl ?_); (try (refine gate_guard (by rfl) ?_; dsimp only)); refine box_event ?hg (N := 13) ?hd (cs := #[.string (⟨#[]⟩ : ByteArray), .string (⟨#[]⟩ : ByteArray)]) (t := 33) ?hr ?_; (case hd => rfl); (case hg => rfl); (case hr => first | (go_simp; done) | (go_simp; rfl)); intro gb235 hg w41 hbox hb; have n0_ := Aside0.mk (Kd.R_below (Kd.R_elderB (by (with_reducible repeat (first | apply Kd.R_alloc | apply Kd.R_drewN | apply Kd.R_drew)); exact HO_71.out) gb235 (Nat.le_of_eq hg.symm)) hb); have n1_ := Aside0.mk (below_step (by repeat (first | (with_reducible first | exact HB.out | apply below_alloc | apply pw_below_drewN | apply below_drew1) | exact HB.out)) hb); have n2_ := Aside0.mk (hbox); have n3_ := Aside0.mk ((by rw [hg]; exact (below_size (by repeat (first | (with_reducible first | exact HB.out | apply below_alloc | apply pw_below_drewN | apply below_drew1) | exact HB.out))) : w.heap.size ≤ gb235)); have n4_ := Aside0.mk ((by rw [hg]; exact (below_size (by repeat (first | (with_reducible first | exact HB.out | apply below_alloc | apply pw_below_drewN | apply below_drew1) | exact HB.out))) : w.heap.size ≤ gb235)); clear HO_71; clear HB; have HO_71 := n0_; have HB := n1_; have BK235 := n2_; have GW235 := n3_; have GE235 := n4_; clear n0_ n1_ n2_ n3_ n4_; clear hb hbox hg; have hcz42_0 : w41.cell? ⟨gb235, 0, none⟩ = some (.string (⟨#[]⟩ : ByteArray)) := (blk_cell BK235.out 0).trans rfl; have hcz42_1 : w41.cell? ⟨gb235, 1, none⟩ = some (.string (⟨#[]⟩ : ByteArray)) := (blk_cell BK235.out 1).trans rfl; have hfz42_0 := blk_frozen BK235.out 0; have hfz42_1 := blk_frozen BK235.out 1))
                              have n0_ : Aside0 (Kd.R k33 33 ((w41.setCell ⟨gb235, 0, none⟩ (.string ((rd_T33 y231 x73_2).f0))).setCell ⟨gb235, 1, none⟩ (.string ((rd_T33 y231 x73_2).f1))) w.heap.size (fun k_ => k_ ≠ gb235) (.slice (some ad234) y231.length co28) y231) := ⟨by (with_reducible repeat (first | apply Kd.R_alloc | apply Kd.R_drewN | apply Kd.R_drew)); exact Kd.R_mono (Kd.R_far (p := ⟨gb235, 1, none⟩) (Kd.R_far (p := ⟨gb235, 0, none⟩) (Kd.R_mono HO_71.out (fun k_ hk => (⟨hk, hk.2⟩ : _ ∧ k_ ≠ gb235))) (fun _ hk => hk.2) (.string ((rd_T33 y231 x73_2).f0))) (fun _ hk => hk.2) (.string ((rd_T33 y231 x73_2).f1))) (fun _ hk => hk.1.2)⟩
                              have n1_ : Aside0 (((w41.setCell ⟨gb235, 0, none⟩ (.string ((rd_T33 y231 x73_2).f0))).setCell ⟨gb235, 1, none⟩ (.string ((rd_T33 y231 x73_2).f1))).heap[gb235]? = some (.cells #[.string ((rd_T33 y231 x73_2).f0), .string ((rd_T33 y231 x73_2).f1)] 33 (0, 0))) := ⟨by (with_reducible repeat (first | refine blk_drewN ?_ _ | refine blk_drew ?_ | refine blk_alloc ?_ _)); refine blk_put (cs := #[.string ((rd_T33 y231 x73_2).f0), .string (⟨#[]⟩ : ByteArray)]) ?_ 1 _ rfl; (with_reducible repeat (first | refine blk_drewN ?_ _ | refine blk_drew ?_ | refine blk_alloc ?_ _)); refine blk_put (cs := #[.string (⟨#[]⟩ : ByteArray), .string (⟨#[]⟩ : ByteArray)]) ?_ 0 _ rfl; (with_reducible repeat (first | refine blk_drewN ?_ _ | refine blk_drew ?_ | refine blk_alloc ?_ _)); exact BK235.out⟩
                              have n2_ : Aside0 (Below w.heap.size w ((w41.setCell ⟨gb235, 0, none⟩ (.string ((rd_T33 y231 x73_2).f0))).setCell ⟨gb235, 1, none⟩ (.string ((rd_T33 y231 x73_2).f1)))) := ⟨by repeat (first | (with_reducible first | exact HB.out | apply below_alloc | apply pw_below_drewN | apply below_drew1 | refine below_set ?_ GE235.out) | exact HB.out)⟩
                              (try clear HO_71)
                              (try clear BK235)
                              (try clear HB)
                              generalize ((w41.setCell ⟨gb235, 0, none⟩ (.string ((rd_T33 y231 x73_2).f0))).setCell ⟨gb235, 1, none⟩ (.string ((rd_T33 y231 x73_2).f1))) = w43 at n0_ n1_ n2_ ⊢
                              have HO_71 := n0_
                              have BK235 := n1_
                              have HB := n2_
                              clear n0_ n1_ n2_
                              have n0_ := Aside0.mk (Kd.R_drew HO_71.out)
                              have n1_ := Aside0.mk (blk_drew BK235.out)
                              have n2_ := Aside0.mk (below_drew1 HB.out)
                              clear HO_71
                              clear BK235
                              clear HB
                              have HO_71 := n0_
                              have BK235 := n1_
                              have HB := n2_
                              clear n0_ n1_ n2_
                              refine start_ (n := 11) (S := fun w' => w'.cell? ⟨gb235, 0, none⟩ = some (.string ((rd_T33 y231 x73_2).f0)) ∧ w'.cell? ⟨gb235, 1, none⟩ = some (.string ((rd_T33 y231 x73_2).f1))) (ds := []) #[false, false, false, false, false, false, false, false, false, false, false] (by kernel_rfl) rfl rfl ⟨(blk_cell BK235.out 0).trans rfl, (blk_cell BK235.out 1).trans rfl⟩ (fun hHeld => ?_); refine with_tabW certpathlaw04_OidUnder.tab9 certpathlaw04_OidUnder.bits9 (fun HT_ HW_ => ?_)
                              generalize w43.drew = w44 at HO_71 BK235 HB hHeld ⊢
                              refine pure_ (i := 0) (N := some 77) (v := ?_) (a' := ?_) #[true, false, false, false, false, false, false, false, false, false, false] rfl rfl (any_of HT_.out (by kernel_rfl)) (fun _ _ _ h => h) (Or.inl ⟨by rfl, ?_⟩) ?_ ?_
                              rotate_left
                              · intro w'
                                go_simp
                                with_reducible rfl
                              rotate_left
                              · simp only [Act.put, List.setIfInBounds_toArray, List.set_cons_zero, List.set_cons_succ, i64_w, i32_w]
                                rfl
                              refine pure_ (i := 2) (N := some 79) (v := ?_) (a' := ?_) #[true, false, true, false, false, false, false, false, false, false, false] rfl rfl (any_of HT_.out (by kernel_rfl)) (fun _ _ _ h => h) (Or.inl ⟨by rfl, ?_⟩) ?_ ?_
                              rotate_left
                              · intro w'
                                go_simp
                                with_reducible rfl
                              rotate_left
                              · simp only [Act.put, List.setIfInBounds_toArray, List.set_cons_zero, List.set_cons_succ, i64_w, i32_w]
                                rfl
                              refine pure_ (i := 5) (N := some 82) (v := ?_) (a' := ?_) #[true, false, true, false, false, true, false, false, false, false, false] rfl rfl (any_of HT_.out (by kernel_rfl)) (fun _ _ _ h => h) (Or.inl ⟨by rfl, ?_⟩) ?_ ?_
                              rotate_left
                              · intro w'
                                go_simp
                                with_reducible rfl
                              rotate_left
                              · simp only [Act.put, List.setIfInBounds_toArray, List.set_cons_zero, List.set_cons_succ, i64_w, i32_w]
                                rfl
                              refine pure_ (i := 7) (N := some 84) (v := ?_) (a' := ?_) #[true, false, true, false, false, true, false, true, false, false, false] rfl rfl (any_of HT_.out (by kernel_rfl)) (fun _ _ _ h => h) (Or.inl ⟨by rfl, ?_⟩) ?_ ?_
                              rotate_left
                              · intro w'
                                go_simp
                                with_reducible rfl
                              rotate_left
                              · simp only [Act.put, List.setIfInBounds_toArray, List.set_cons_zero, List.set_cons_succ, i64_w, i32_w]
                                rfl
                              refine take_ (i := 1) (N := some 78) (v := ?_) (a' := ?_) #[true, true, true, false, false, true, false, true, false, false, false] rfl rfl (take_ofW HT_.out HW_.out (by kernel_rfl)) (fun _ _ _ h => h) (Or.inl ⟨by rfl, ?_⟩) hHeld ?_ ?_
                              rotate_left
                              · rintro w' ⟨s0, s1⟩
                                go_simp
                                with_reducible rfl
                              rotate_left
                              · simp only [Act.put, List.setIfInBounds_toArray, List.set_cons_zero, List.set_cons_succ, i64_w, i32_w]
                                rfl
                              refine take_ (i := 3) (N := some 80) (v := ?_) (a' := ?_) #[true, true, true, true, false, true, false, true, false, false, false] rfl rfl (take_ofW HT_.out HW_.out (by kernel_rfl)) (fun _ _ _ h => h) (Or.inl ⟨by rfl, ?_⟩) hHeld ?_ ?_
                              rotate_left
                              · rintro w' ⟨s0, s1⟩
                                go_simp
                                with_reducible rfl
                              rotate_left
                              · simp only [Act.put, List.setIfInBounds_toArray, List.set_cons_zero, List.set_cons_succ, i64_w, i32_w]
                                rfl
                              refine take_ (i := 6) (N := some 83) (v := ?_) (a' := ?_) #[true, true, true, true, false, true, true, true, false, false, false] rfl rfl (take_ofW HT_.out HW_.out (by kernel_rfl)) (fun _ _ _ h => h) (Or.inl ⟨by rfl, ?_⟩) hHeld ?_ ?_
                              rotate_left
                              · rintro w' ⟨s0, s1⟩
                                go_simp
                                with_reducible rfl
                              rotate_left
                              · simp only [Act.put, List.setIfInBounds_toArray, List.set_cons_zero, List.set_cons_succ, i64_w, i32_w]
                                rfl
                              refine take_ (i := 8) (N := some 85) (v := ?_) (a' := ?_) #[true, true, true, true, false, true, true, true, true, false, false] rfl rfl (take_ofW HT_.out HW_.out (by kernel_rfl)) (fun _ _ _ h => h) (Or.inl ⟨by rfl, ?_⟩) hHeld ?_ ?_
                              rotate_left
                              · rintro w' ⟨s0, s1⟩
                                go_simp
                                with_reducible rfl
                              rotate_left
                              · simp only [Act.put, List.setIfInBounds_toArray, List.set_cons_zero, List.set_cons_succ, i64_w, i32_w]
                                rfl
                              refine one_ (i := 4) (N := some 81) #[true, true, true, true, true, true, true, true, true, false, false] rfl rfl (one_of HT_.out (by kernel_rfl)) (by decide) (fun K hK => ?_)
                              refine goes_ Tryd.func15 (by kernel_rfl) rfl #[.string ((rd_T33 y231 x73_2).f0), .string ((rd_T33 y231 x73_2).f1)] (by rfl) rfl rfl (by (try simp only [List.map_toArray, List.map_cons, List.map_nil]); first | done | rfl | (simp only [List.length_drop, List.length_take]; rfl)) ?_
                              with_reducible refine (oid_Under.calls k2 ((rd_T33 y231 x73_2).f0) ((rd_T33 y231 x73_2).f1) t236 _ ?side1 A32.out).mono ?_
                              (case side1 => refine Ext.G.step ?_ hG_; repeat (first | (with_reducible first | exact HB.out | apply below_alloc | apply pw_below_drewN | apply below_drew1 | refine below_set ?_ GE235.out) | exact HB.out))
                              rintro e w45 ⟨rfl, hb⟩
                              refine ⟨_, rfl, ?_⟩
                              have n0_ := Aside0.mk (Kd.R_below (by (with_reducible repeat (first | apply Kd.R_alloc | apply Kd.R_drewN | apply Kd.R_drew)); exact HO_71.out) hb)
                              have n1_ := Aside0.mk (blk_below (g := gb235) (o := .cells #[.string ((rd_T33 y231 x73_2).f0), .string ((rd_T33 y231 x73_2).f1)] 33 (0, 0)) (by (with_reducible repeat (first | refine blk_drewN ?_ _ | refine blk_drew ?_ | refine blk_alloc ?_ _)); exact BK235.out) hb)
                              have n2_ := Aside0.mk (below_step (by repeat (first | (with_reducible first | exact HB.out | apply below_alloc | apply pw_below_drewN | apply below_drew1 | refine below_set ?_ GE235.out) | exact HB.out)) hb)
                              clear HO_71
                              clear BK235
                              clear HB
                              have HO_71 := n0_
                              have BK235 := n1_
                              have HB := n2_
                              clear n0_ n1_ n2_
                              (try clear hb)
                              (try clear hb2)
                              (try clear hk)
                              (try clear hi)
                              refine hK.out _ _ ⟨(blk_cell BK235.out 0).trans rfl, (blk_cell BK235.out 1).trans rfl⟩ (fun hHeld => ?_)
                              clear hK K
                              refine norm_ (a' := ?_) ?_ ?_
                              rotate_left
                              · show Act.put _ (some 81) _ = _
                                simp only [Act.put, List.setIfInBounds_toArray, List.set_cons_zero, List.set_cons_succ, i64_w, i32_w]
                                rfl
                              refine one_ (i := 9) (N := some 86) #[true, true, true, true, true, true, true, true, true, true, false] rfl rfl (one_of HT_.out (by kernel_rfl)) (by decide) (fun K hK => ?_)
                              refine goes_ Tryd.func16 (by kernel_rfl) rfl #[.string ((rd_T33 y231 x73_2).f0), .string ((rd_T33 y231 x73_2).f1)] (by rfl) rfl rfl (by (try simp only [List.map_toArray, List.map_cons, List.map_nil]); first | done | rfl | (simp only [List.length_drop, List.length_take]; rfl)) ?_
                              with_reducible refine (certpathref01_UnderOID.calls k2 ((rd_T33 y231 x73_2).f0) ((rd_T33 y231 x73_2).f1) t237 _ ?side1 A33.out).mono ?_
                              (case side1 => refine Ext.G.step ?_ hG_; repeat (first | (with_reducible first | exact HB.out | apply below_alloc | apply pw_below_drewN | apply below_drew1 | refine below_set ?_ GE235.out) | exact HB.out))
                              rintro e w46 ⟨rfl, hb⟩
                              refine ⟨_, rfl, ?_⟩
                              have n0_ := Aside0.mk (Kd.R_below (by (with_reducible repeat (first | apply Kd.R_alloc | apply Kd.R_drewN | apply Kd.R_drew)); exact HO_71.out) hb)
                              have n1_ := Aside0.mk (blk_below (g := gb235) (o := .cells #[.string ((rd_T33 y231 x73_2).f0), .string ((rd_T33 y231 x73_2).f1)] 33 (0, 0)) (by (with_reducible repeat (first | refine blk_drewN ?_ _ | refine blk_drew ?_ | refine blk_alloc ?_ _)); exact BK235.out) hb)
                              have n2_ := Aside0.mk (below_step (by repeat (first | (with_reducible first | exact HB.out | apply below_alloc | apply pw_below_drewN | apply below_drew1 | refine below_set ?_ GE235.out) | exact HB.out)) hb)
                              clear HO_71
                              clear BK235
                              clear HB
                              have HO_71 := n0_
                              have BK235 := n1_
                              have HB := n2_
                              clear n0_ n1_ n2_
                              (try clear hb)
                              (try clear hb2)
                              (try clear hk)
                              (try clear hi)
                              refine hK.out _ _ ⟨(blk_cell BK235.out 0).trans rfl, (blk_cell BK235.out 1).trans rfl⟩ (fun hHeld => ?_)
                              clear hK K
                              refine norm_ (a' := ?_) ?_ ?_
                              rotate_left
                              · show Act.put _ (some 86) _ = _
                                simp only [Act.put, List.setIfInBounds_toArray, List.set_cons_zero, List.set_cons_succ, i64_w, i32_w]
                                rfl
                              refine pure_ (i := 10) (N := some 87) (v := ?_) (a' := ?_) #[true, true, true, true, true, true, true, true, true, true, true] rfl rfl (any_of HT_.out (by kernel_rfl)) (fun _ _ _ h => h) (Or.inl ⟨by rfl, ?_⟩) ?_ ?_
                              rotate_left
                              · intro w'
                                go_simp
                                with_reducible rfl
                              rotate_left
                              · simp only [Act.put, List.setIfInBounds_toArray, List.set_cons_zero, List.set_cons_succ, i64_w, i32_w]
                                rfl
                              refine done_ (done_of HT_.out (by kernel_rfl)) ?_
                              try go_wp2
                              go_roundg k2
                              case measure => have := HJ4.out; have := HK2.out; omega
                              case rel => exact ⟨(wrap64 (x73_2 + 1)), (by first | rfl | (simp; done) | (simp [*]; done)), H', ⟨by have := HJ4.out; have := HK2.out; omega⟩, ⟨by (with_reducible repeat (first | apply Kd.R_alloc | apply Kd.R_drewN | apply Kd.R_drew)); exact Kd.R_mono HO_71.out (fun _ hk => trivial)⟩, ⟨by repeat (first | (with_reducible first | exact HB.out | apply below_alloc | apply pw_below_drewN | apply below_drew1 | refine below_set ?_ GE235.out) | exact HB.out)⟩⟩
                          · rw [if_neg c31] at H
                            exact absurd H (by simp)
                        · rw [if_neg c30] at H
                          exact absurd H (by simp)
                      · rw [if_neg c29] at H
                        have c29b0 : decide (x73_2 < (y231.length : Int)) = false := decide_eq_false c29
                        clear c29
                        replace H := Option.bind_eq_some_iff.mp H
                        obtain ⟨t238, A470, H⟩ := H
                        replace H : (if t238 = true then ((oid_Under.f k2 t226 t226).bind fun t239 => (if t239 = true then ((oid_Under.f k2 t226 t228).bind fun t240 => (if t240 = true then ((oid_Under.f k2 t228 t230).bind fun t241 => (if t241 = true then ((oid_Under.f k2 t226 t230).bind fun t242 => (some t242)) else (some false))) else (some false))) else (some false))) else (some false)) = some r := H
                        have A47 := Aside0.mk A470
                        clear A470
                        by_cases c48 : t238 = true
                        · subst c48
                          have H1 : ((oid_Under.f k2 t226 t226).bind fun t239 => (if t239 = true then ((oid_Under.f k2 t226 t228).bind fun t240 => (if t240 = true then ((oid_Under.f k2 t228 t230).bind fun t241 => (if t241 = true then ((oid_Under.f k2 t226 t230).bind fun t242 => (some t242)) else (some false))) else (some false))) else (some false))) = some r := by rw [if_pos rfl] at H; exact H
                          clear H
                          have H := H1
                          clear H1
                          replace H := Option.bind_eq_some_iff.mp H
                          obtain ⟨t239, A490, H⟩ := H
                          replace H : (if t239 = true then ((oid_Under.f k2 t226 t228).bind fun t240 => (if t240 = true then ((oid_Under.f k2 t228 t230).bind fun t241 => (if t241 = true then ((oid_Under.f k2 t226 t230).bind fun t242 => (some t242)) else (some false))) else (some false))) else (some false)) = some r := H
                          have A49 := Aside0.mk A490
                          clear A490
                          by_cases c50 : t239 = true
                          · subst c50
                            have H1 : ((oid_Under.f k2 t226 t228).bind fun t240 => (if t240 = true then ((oid_Under.f k2 t228 t230).bind fun t241 => (if t241 = true then ((oid_Under.f k2 t226 t230).bind fun t242 => (some t242)) else (some false))) else (some false))) = some r := by rw [if_pos rfl] at H; exact H
                            clear H
                            have H := H1
                            clear H1
                            replace H := Option.bind_eq_some_iff.mp H
                            obtain ⟨t240, A510, H⟩ := H
                            replace H : (if t240 = true then ((oid_Under.f k2 t228 t230).bind fun t241 => (if t241 = true then ((oid_Under.f k2 t226 t230).bind fun t242 => (some t242)) else (some false))) else (some false)) = some r := H
                            have A51 := Aside0.mk A510
                            clear A510
                            by_cases c52 : t240 = true
                            · subst c52
                              have H1 : ((oid_Under.f k2 t228 t230).bind fun t241 => (if t241 = true then ((oid_Under.f k2 t226 t230).bind fun t242 => (some t242)) else (some false))) = some r := by rw [if_pos rfl] at H; exact H
                              clear H
                              have H := H1
                              clear H1
                              replace H := Option.bind_eq_some_iff.mp H
                              obtain ⟨t241, A530, H⟩ := H
                              replace H : (if t241 = true then ((oid_Under.f k2 t226 t230).bind fun t242 => (some t242)) else (some false)) = some r := H
                              have A53 := Aside0.mk A530
                              clear A530
                              by_cases c54 : t241 = true
                              · subst c54
                                have H1 : ((oid_Under.f k2 t226 t230).bind fun t242 => (some t242)) = some r := by rw [if_pos rfl] at H; exact H
                                clear H
                                have H := H1
                                clear H1
                                replace H := Option.bind_eq_some_iff.mp H
                                obtain ⟨t242, A550, H⟩ := H
                                replace H : (some t242) = some r := H
                                have A55 := Aside0.mk A550
                                clear A550
                                obtain rfl := Option.some.inj H
                                go_wp2_with (first | ((with_reducible refine gate_callee (f := 8) rfl ?_); refine goesL_ (some 89) rfl rfl Tryd.func8 (by kernel_rfl) rfl #[] rfl (by (try simp only [List.map_toArray, List.map_cons, List.map_nil]); first | done | rfl | (simp only [List.length_drop, List.length_take]; rfl)) ?_; (with_reducible refine (certpathlaw04_awake.calls k2  true _ ?side1 A47.out).mono ?_); (case side1 => refine Ext.G.step ?_ hG_; repeat (first | (with_reducible first | exact HB.out | apply below_alloc | apply pw_below_drewN | apply below_drew1) | exact HB.out)); rintro e w56 ⟨rfl, hb⟩; refine ⟨_, rfl, ?_⟩; have n0_ := Aside0.mk (Kd.R_below (by (with_reducible repeat (first | apply Kd.R_alloc | apply Kd.R_drewN | apply Kd.R_drew)); exact HO_71.out) hb); have n1_ := Aside0.mk (below_step (by repeat (first | (with_reducible first | exact HB.out | apply below_alloc | apply pw_below_drewN | apply below_drew1) | exact HB.out)) hb); clear HO_71; clear HB; have HO_71 := n0_; have HB := n1_; clear n0_ n1_; (try clear hb); (try clear hb2); (try clear hk); (try clear hi)) | (go_at_call 15; (with_reducible refine (oid_Under.calls k2 t226 t226 true _ ?side1 A49.out).mono ?_); (case side1 => refine Ext.G.step ?_ hG_; repeat (first | (with_reducible first | exact HB.out | apply below_alloc | apply pw_below_drewN | apply below_drew1) | exact HB.out)); rintro e w57 ⟨rfl, hb⟩; have n0_ := Aside0.mk (Kd.R_below (by (with_reducible repeat (first | apply Kd.R_alloc | apply Kd.R_drewN | apply Kd.R_drew)); exact HO_71.out) hb); have n1_ := Aside0.mk (below_step (by repeat (first | (with_reducible first | exact HB.out | apply below_alloc | apply pw_below_drewN | apply below_drew1) | exact HB.out)) hb); clear HO_71; clear HB; have HO_71 := n0_; have HB := n1_; clear n0_ n1_; (try clear hb); (try clear hb2); (try clear hk); (try clear hi)) | (go_at_call 15; (with_reducible refine (oid_Under.calls k2 t226 t228 true _ ?side1 A51.out).mono ?_); (case side1 => refine Ext.G.step ?_ hG_; repeat (first | (with_reducible first | exact HB.out | apply below_alloc | apply pw_below_drewN | apply below_drew1) | exact HB.out)); rintro e w58 ⟨rfl, hb⟩; have n0_ := Aside0.mk (Kd.R_below (by (with_reducible repeat (first | apply Kd.R_alloc | apply Kd.R_drewN | apply Kd.R_drew)); exact HO_71.out) hb); have n1_ := Aside0.mk (below_step (by repeat (first | (with_reducible first | exact HB.out | apply below_alloc | apply pw_below_drewN | apply below_drew1) | exact HB.out)) hb); clear HO_71; clear HB; have HO_71 := n0_; have HB := n1_; clear n0_ n1_; (try clear hb); (try clear hb2); (try clear hk); (try clear hi)) | (go_at_call 15; (with_reducible refine (oid_Under.calls k2 t228 t230 true _ ?side1 A53.out).mono ?_); (case side1 => refine Ext.G.step ?_ hG_; repeat (first | (with_reducible first | exact HB.out | apply below_alloc | apply pw_below_drewN | apply below_drew1) | exact HB.out)); rintro e w59 ⟨rfl, hb⟩; have n0_ := Aside0.mk (Kd.R_below (by (with_reducible repeat (first | apply Kd.R_alloc | apply Kd.R_drewN | apply Kd.R_drew)); exact HO_71.out) hb); have n1_ := Aside0.mk (below_step (by repeat (first | (with_reducible first | exact HB.out | apply below_alloc | apply pw_below_drewN | apply below_drew1) | exact HB.out)) hb); clear HO_71; clear HB; have HO_71 := n0_; have HB := n1_; clear n0_ n1_; (try clear hb); (try clear hb2); (try clear hk); (try clear hi)) | (go_at_call 15; (with_reducible refine (oid_Under.calls k2 t226 t230 t242 _ ?side1 A55.out).mono ?_); (case side1 => refine Ext.G.step ?_ hG_; repeat (first | (with_reducible first | exact HB.out | apply below_alloc | apply pw_below_drewN | apply below_drew1) | exact HB.out)); rintro e w60 ⟨rfl, hb⟩; have n0_ := Aside0.mk (Kd.R_below (by (with_reducible repeat (first | apply Kd.R_alloc | apply Kd.R_drewN | apply Kd.R_drew)); exact HO_71.out) hb); have n1_ := Aside0.mk (below_step (by repeat (first | (with_reducible first | exact HB.out | apply below_alloc | apply pw_below_drewN | apply below_drew1) | exact HB.out)) hb); clear HO_71; clear HB; have HO_71 := n0_; have HB := n1_; clear n0_ n1_; (try clear hb); (try clear hb2); (try clear hk); (try clear hi)))
                                go_ret
                                exact ⟨by first | rfl | (simp [errW_none, errW_some] <;> rfl) | (simp only [← hji11, ← hji16]; first | rfl | (simp [errW_none, errW_some] <;> rfl)) | (simp [*, errW_none, errW_some] <;> rfl), by repeat (first | (with_reducible first | exact HB.out | apply below_alloc | apply pw_below_drewN | apply below_drew1) | exact HB.out)⟩
                              · replace c54 := Bool.eq_false_iff.mpr c54
                                subst c54
                                have H1 : (some false) = some r := by rw [if_neg (show ¬ (false = true) by decide)] at H; exact H
                                clear H
                                have H := H1
                                clear H1
                                obtain rfl := Option.some.inj H
                                go_wp2_with (first | ((with_reducible refine gate_callee (f := 8) rfl ?_); refine goesL_ (some 89) rfl rfl Tryd.func8 (by kernel_rfl) rfl #[] rfl (by (try simp only [List.map_toArray, List.map_cons, List.map_nil]); first | done | rfl | (simp only [List.length_drop, List.length_take]; rfl)) ?_; (with_reducible refine (certpathlaw04_awake.calls k2  true _ ?side1 A47.out).mono ?_); (case side1 => refine Ext.G.step ?_ hG_; repeat (first | (with_reducible first | exact HB.out | apply below_alloc | apply pw_below_drewN | apply below_drew1) | exact HB.out)); rintro e w61 ⟨rfl, hb⟩; refine ⟨_, rfl, ?_⟩; have n0_ := Aside0.mk (Kd.R_below (by (with_reducible repeat (first | apply Kd.R_alloc | apply Kd.R_drewN | apply Kd.R_drew)); exact HO_71.out) hb); have n1_ := Aside0.mk (below_step (by repeat (first | (with_reducible first | exact HB.out | apply below_alloc | apply pw_below_drewN | apply below_drew1) | exact HB.out)) hb); clear HO_71; clear HB; have HO_71 := n0_; have HB := n1_; clear n0_ n1_; (try clear hb); (try clear hb2); (try clear hk); (try clear hi)) | (go_at_call 15; (with_reducible refine (oid_Under.calls k2 t226 t226 true _ ?side1 A49.out).mono ?_); (case side1 => refine Ext.G.step ?_ hG_; repeat (first | (with_reducible first | exact HB.out | apply below_alloc | apply pw_below_drewN | apply below_drew1) | exact HB.out)); rintro e w62 ⟨rfl, hb⟩; have n0_ := Aside0.mk (Kd.R_below (by (with_reducible repeat (first | apply Kd.R_alloc | apply Kd.R_drewN | apply Kd.R_drew)); exact HO_71.out) hb); have n1_ := Aside0.mk (below_step (by repeat (first | (with_reducible first | exact HB.out | apply below_alloc | apply pw_below_drewN | apply below_drew1) | exact HB.out)) hb); clear HO_71; clear HB; have HO_71 := n0_; have HB := n1_; clear n0_ n1_; (try clear hb); (try clear hb2); (try clear hk); (try clear hi)) | (go_at_call 15; (with_reducible refine (oid_Under.calls k2 t226 t228 true _ ?side1 A51.out).mono ?_); (case side1 => refine Ext.G.step ?_ hG_; repeat (first | (with_reducible first | exact HB.out | apply below_alloc | apply pw_below_drewN | apply below_drew1) | exact HB.out)); rintro e w63 ⟨rfl, hb⟩; have n0_ := Aside0.mk (Kd.R_below (by (with_reducible repeat (first | apply Kd.R_alloc | apply Kd.R_drewN | apply Kd.R_drew)); exact HO_71.out) hb); have n1_ := Aside0.mk (below_step (by repeat (first | (with_reducible first | exact HB.out | apply below_alloc | apply pw_below_drewN | apply below_drew1) | exact HB.out)) hb); clear HO_71; clear HB; have HO_71 := n0_; have HB := n1_; clear n0_ n1_; (try clear hb); (try clear hb2); (try clear hk); (try clear hi)) | (go_at_call 15; (with_reducible refine (oid_Under.calls k2 t228 t230 false _ ?side1 A53.out).mono ?_); (case side1 => refine Ext.G.step ?_ hG_; repeat (first | (with_reducible first | exact HB.out | apply below_alloc | apply pw_below_drewN | apply below_drew1) | exact HB.out)); rintro e w64 ⟨rfl, hb⟩; have n0_ := Aside0.mk (Kd.R_below (by (with_reducible repeat (first | apply Kd.R_alloc | apply Kd.R_drewN | apply Kd.R_drew)); exact HO_71.out) hb); have n1_ := Aside0.mk (below_step (by repeat (first | (with_reducible first | exact HB.out | apply below_alloc | apply pw_below_drewN | apply below_drew1) | exact HB.out)) hb); clear HO_71; clear HB; have HO_71 := n0_; have HB := n1_; clear n0_ n1_; (try clear hb); (try clear hb2); (try clear hk); (try clear hi)))
                                go_ret
                                exact ⟨by first | rfl | (simp [errW_none, errW_some] <;> rfl) | (simp only [← hji11, ← hji16]; first | rfl | (simp [errW_none, errW_some] <;> rfl)) | (simp [*, errW_none, errW_some] <;> rfl), by repeat (first | (with_reducible first | exact HB.out | apply below_alloc | apply pw_below_drewN | apply below_drew1) | exact HB.out)⟩
                            · replace c52 := Bool.eq_false_iff.mpr c52
                              subst c52
                              have H1 : (some false) = some r := by rw [if_neg (show ¬ (false = true) by decide)] at H; exact H
                              clear H
                              have H := H1
                              clear H1
                              obtain rfl := Option.some.inj H
                              go_wp2_with (first | ((with_reducible refine gate_callee (f := 8) rfl ?_); refine goesL_ (some 89) rfl rfl Tryd.func8 (by kernel_rfl) rfl #[] rfl (by (try simp only [List.map_toArray, List.map_cons, List.map_nil]); first | done | rfl | (simp only [List.length_drop, List.length_take]; rfl)) ?_; (with_reducible refine (certpathlaw04_awake.calls k2  true _ ?side1 A47.out).mono ?_); (case side1 => refine Ext.G.step ?_ hG_; repeat (first | (with_reducible first | exact HB.out | apply below_alloc | apply pw_below_drewN | apply below_drew1) | exact HB.out)); rintro e w65 ⟨rfl, hb⟩; refine ⟨_, rfl, ?_⟩; have n0_ := Aside0.mk (Kd.R_below (by (with_reducible repeat (first | apply Kd.R_alloc | apply Kd.R_drewN | apply Kd.R_drew)); exact HO_71.out) hb); have n1_ := Aside0.mk (below_step (by repeat (first | (with_reducible first | exact HB.out | apply below_alloc | apply pw_below_drewN | apply below_drew1) | exact HB.out)) hb); clear HO_71; clear HB; have HO_71 := n0_; have HB := n1_; clear n0_ n1_; (try clear hb); (try clear hb2); (try clear hk); (try clear hi)) | (go_at_call 15; (with_reducible refine (oid_Under.calls k2 t226 t226 true _ ?side1 A49.out).mono ?_); (case side1 => refine Ext.G.step ?_ hG_; repeat (first | (with_reducible first | exact HB.out | apply below_alloc | apply pw_below_drewN | apply below_drew1) | exact HB.out)); rintro e w66 ⟨rfl, hb⟩; have n0_ := Aside0.mk (Kd.R_below (by (with_reducible repeat (first | apply Kd.R_alloc | apply Kd.R_drewN | apply Kd.R_drew)); exact HO_71.out) hb); have n1_ := Aside0.mk (below_step (by repeat (first | (with_reducible first | exact HB.out | apply below_alloc | apply pw_below_drewN | apply below_drew1) | exact HB.out)) hb); clear HO_71; clear HB; have HO_71 := n0_; have HB := n1_; clear n0_ n1_; (try clear hb); (try clear hb2); (try clear hk); (try clear hi)) | (go_at_call 15; (with_reducible refine (oid_Under.calls k2 t226 t228 false _ ?side1 A51.out).mono ?_); (case side1 => refine Ext.G.step ?_ hG_; repeat (first | (with_reducible first | exact HB.out | apply below_alloc | apply pw_below_drewN | apply below_drew1) | exact HB.out)); rintro e w67 ⟨rfl, hb⟩; have n0_ := Aside0.mk (Kd.R_below (by (with_reducible repeat (first | apply Kd.R_alloc | apply Kd.R_drewN | apply Kd.R_drew)); exact HO_71.out) hb); have n1_ := Aside0.mk (below_step (by repeat (first | (with_reducible first | exact HB.out | apply below_alloc | apply pw_below_drewN | apply below_drew1) | exact HB.out)) hb); clear HO_71; clear HB; have HO_71 := n0_; have HB := n1_; clear n0_ n1_; (try clear hb); (try clear hb2); (try clear hk); (try clear hi)))
                              go_ret
                              exact ⟨by first | rfl | (simp [errW_none, errW_some] <;> rfl) | (simp only [← hji11, ← hji16]; first | rfl | (simp [errW_none, errW_some] <;> rfl)) | (simp [*, errW_none, errW_some] <;> rfl), by repeat (first | (with_reducible first | exact HB.out | apply below_alloc | apply pw_below_drewN | apply below_drew1) | exact HB.out)⟩
                          · replace c50 := Bool.eq_false_iff.mpr c50
                            subst c50
                            have H1 : (some false) = some r := by rw [if_neg (show ¬ (false = true) by decide)] at H; exact H
                            clear H
                            have H := H1
                            clear H1
                            obtain rfl := Option.some.inj H
                            go_wp2_with (first | ((with_reducible refine gate_callee (f := 8) rfl ?_); refine goesL_ (some 89) rfl rfl Tryd.func8 (by kernel_rfl) rfl #[] rfl (by (try simp only [List.map_toArray, List.map_cons, List.map_nil]); first | done | rfl | (simp only [List.length_drop, List.length_take]; rfl)) ?_; (with_reducible refine (certpathlaw04_awake.calls k2  true _ ?side1 A47.out).mono ?_); (case side1 => refine Ext.G.step ?_ hG_; repeat (first | (with_reducible first | exact HB.out | apply below_alloc | apply pw_below_drewN | apply below_drew1) | exact HB.out)); rintro e w68 ⟨rfl, hb⟩; refine ⟨_, rfl, ?_⟩; have n0_ := Aside0.mk (Kd.R_below (by (with_reducible repeat (first | apply Kd.R_alloc | apply Kd.R_drewN | apply Kd.R_drew)); exact HO_71.out) hb); have n1_ := Aside0.mk (below_step (by repeat (first | (with_reducible first | exact HB.out | apply below_alloc | apply pw_below_drewN | apply below_drew1) | exact HB.out)) hb); clear HO_71; clear HB; have HO_71 := n0_; have HB := n1_; clear n0_ n1_; (try clear hb); (try clear hb2); (try clear hk); (try clear hi)) | (go_at_call 15; (with_reducible refine (oid_Under.calls k2 t226 t226 false _ ?side1 A49.out).mono ?_); (case side1 => refine Ext.G.step ?_ hG_; repeat (first | (with_reducible first | exact HB.out | apply below_alloc | apply pw_below_drewN | apply below_drew1) | exact HB.out)); rintro e w69 ⟨rfl, hb⟩; have n0_ := Aside0.mk (Kd.R_below (by (with_reducible repeat (first | apply Kd.R_alloc | apply Kd.R_drewN | apply Kd.R_drew)); exact HO_71.out) hb); have n1_ := Aside0.mk (below_step (by repeat (first | (with_reducible first | exact HB.out | apply below_alloc | apply pw_below_drewN | apply below_drew1) | exact HB.out)) hb); clear HO_71; clear HB; have HO_71 := n0_; have HB := n1_; clear n0_ n1_; (try clear hb); (try clear hb2); (try clear hk); (try clear hi)))
                            go_ret
                            exact ⟨by first | rfl | (simp [errW_none, errW_some] <;> rfl) | (simp only [← hji11, ← hji16]; first | rfl | (simp [errW_none, errW_some] <;> rfl)) | (simp [*, errW_none, errW_some] <;> rfl), by repeat (first | (with_reducible first | exact HB.out | apply below_alloc | apply pw_below_drewN | apply below_drew1) | exact HB.out)⟩
                        · replace c48 := Bool.eq_false_iff.mpr c48
                          subst c48
                          have H1 : (some false) = some r := by rw [if_neg (show ¬ (false = true) by decide)] at H; exact H
                          clear H
                          have H := H1
                          clear H1
                          obtain rfl := Option.some.inj H
                          go_wp2_with (first | ((with_reducible refine gate_callee (f := 8) rfl ?_); refine goesL_ (some 89) rfl rfl Tryd.func8 (by kernel_rfl) rfl #[] rfl (by (try simp only [List.map_toArray, List.map_cons, List.map_nil]); first | done | rfl | (simp only [List.length_drop, List.length_take]; rfl)) ?_; (with_reducible refine (certpathlaw04_awake.calls k2  false _ ?side1 A47.out).mono ?_); (case side1 => refine Ext.G.step ?_ hG_; repeat (first | (with_reducible first | exact HB.out | apply below_alloc | apply pw_below_drewN | apply below_drew1) | exact HB.out)); rintro e w70 ⟨rfl, hb⟩; refine ⟨_, rfl, ?_⟩; have n0_ := Aside0.mk (Kd.R_below (by (with_reducible repeat (first | apply Kd.R_alloc | apply Kd.R_drewN | apply Kd.R_drew)); exact HO_71.out) hb); have n1_ := Aside0.mk (below_step (by repeat (first | (with_reducible first | exact HB.out | apply below_alloc | apply pw_below_drewN | apply below_drew1) | exact HB.out)) hb); clear HO_71; clear HB; have HO_71 := n0_; have HB := n1_; clear n0_ n1_; (try clear hb); (try clear hb2); (try clear hk); (try clear hi)))
                          go_ret
                          exact ⟨by first | rfl | (simp [errW_none, errW_some] <;> rfl) | (simp only [← hji11, ← hji16]; first | rfl | (simp [errW_none, errW_some] <;> rfl)) | (simp [*, errW_none, errW_some] <;> rfl), by repeat (first | (with_reducible first | exact HB.out | apply below_alloc | apply pw_below_drewN | apply below_drew1) | exact HB.out)⟩
                · rw [if_neg c20] at H
                  exact absurd H (by simp)
              · rw [if_neg c18] at H
                exact absurd H (by simp)
            · rw [if_neg c17] at H
              exact absurd H (by simp)
          · rw [if_neg c13] at H
            exact absurd H (by simp)
        · rw [if_neg c12] at H
          exact absurd H (by simp)

/-- THE ONE PURE STATEMENT of certpathlaw04_OidUnder: yours. -/
def certpathlaw04_OidUnder.Pure : Prop := ∀ (l0 : List Int) (a1 : Int) (a2 : Int) (a3 : ByteArray), l0.length ≤ maxLen → l0.length * 4 ≤ 140737488351232 → (∀ x ∈ l0, (Lit.int .u32 x).wf = true) → (Lit.int .u8 a1).wf = true → (Lit.int .u8 a2).wf = true → a3.size ≤ 140737488351232 → ∃ k, certpathlaw04_OidUnder.f k l0 a1 a2 a3 = some true
theorem certpathlaw04_OidUnder.walk (P : certpathlaw04_OidUnder.Pure) (a0 : Option Addr) (len0 cap0 : Nat) (z0 : List Int) (a1 : Int) (a2 : Int) (a3 : ByteArray) (w : World) (hG_ : Ext.G w) (w0 : (a0 = none ∧ len0 = 0 ∧ cap0 = 0 ∧ z0 = []) ∨ ∃ x, a0 = some x ∧ len0 ≤ cap0 ∧ cap0 ≤ maxLen ∧ z0.length = cap0 ∧ (∀ i, i < z0.length → w.cell? (x.add i) = some (.int .u32 (z0.getD i 0))) ∧ ∀ n ∈ z0, (Lit.int .u32 n).wf = true) (y0 : len0 * 4 ≤ 140737488351232) (w1 : (Lit.int .u8 a1).wf = true) (w2 : (Lit.int .u8 a2).wf = true) (w3 : a3.size ≤ 140737488351232) :
    Calls Tryd.prog 4 #[.slice a0 len0 cap0, .int .u8 a1, .int .u8 a2, .string a3] w fun e w' => e = .returned (.bool true) ∧ Below w.heap.size w w' := by
  obtain ⟨l0, rfl, hr0, hm0, hw0, hc0⟩ := ReadsInt.ofRowC w0
  obtain ⟨k, h⟩ := P l0 a1 a2 a3 hm0 y0 hw0 w1 w2 w3
  refine (certpathlaw04_OidUnder.calls k _ _ l0 a1 a2 a3 true w hG_ (Kd.C_of_reads (d := (0 : Int)) (h1 := fun _ => rfl) hr0) hc0 h).mono ?_
  rintro e w' ⟨rfl, hd⟩
  exact ⟨rfl, hd⟩

end Go.Proofs.YtcmmlemajlhjoaaDoor.Q
