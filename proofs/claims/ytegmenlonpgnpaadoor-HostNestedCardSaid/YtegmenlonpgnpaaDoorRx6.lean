-- Written by a program of this session (wip/prn.py) out of the translation, for the seat YtegmenlonpgnpaaDoor. Not trusted: Lean checks it.
import Derived.Test.YtegmenlonpgnpaaDoorRx0
namespace Go.Proofs.YtegmenlonpgnpaaDoor.Q
open Go.RowKit Go.Proofs.YtegmenlonpgnpaaDoorW.PrintWords Go.Proofs.YtegmenlonpgnpaaDoorW.PrintLast Go.Proofs.YtegmenlonpgnpaaDoorW.PrintMore
attribute [local go_sem] max2_int min2_int max_two min_two max_three min_three max_four min_four   -- for this text's walks alone
set_option linter.unusedVariables false
set_option linter.unusedSimpArgs false

/-! ### certpathref07_Range: function 36 -/
mutual
def certpathref07_Range.j0 : Nat → ByteArray → Bool → Option (Bool)
  | 0, _, _ => none
  | k + 1, x0, x14 => if x14 = true then (some false) else (certpathref07_Range.l0 k x0 (wrap64 ((x0.size : Int) / 2)) false 0)
def certpathref07_Range.l0 : Nat → ByteArray → Int → Bool → Int → Option (Bool)
  | 0, _, _, _, _ => none
  | k + 1, x0, x3, x4, x5 => if x5 < (wrap64 (8 * x3)) then (if 0 ≤ (wrap64 (x3 + (wrap64 (Int.tdiv x5 8)))) then (if (wrap64 (x3 + (wrap64 (Int.tdiv x5 8)))) < (x0.size : Int) then (if 0 ≤ (wrap64 (7 - (Int.tmod x5 8))) then (if (Int.tmod (shr .u8 (bt x0 (wrap64 (x3 + (wrap64 (Int.tdiv x5 8))))) (wrap64 (7 - (Int.tmod x5 8)))) 2) = 1 then (if x4 = true then (some false) else (if ((Int.tmod (shr .u8 (bt x0 (wrap64 (x3 + (wrap64 (Int.tdiv x5 8))))) (wrap64 (7 - (Int.tmod x5 8)))) 2) = 1) then (certpathref07_Range.l0 k x0 x3 (!((Int.tmod (shr .u8 (bt x0 (wrap64 (x3 + (wrap64 (Int.tdiv x5 8))))) (wrap64 (7 - (Int.tmod x5 8)))) 2) == 1)) (wrap64 (x5 + 1))) else (if 0 ≤ (wrap64 (Int.tdiv x5 8)) then (if (wrap64 (Int.tdiv x5 8)) < (x0.size : Int) then (if (Int.tmod (shr .u8 (bt x0 (wrap64 (Int.tdiv x5 8))) (wrap64 (7 - (Int.tmod x5 8)))) 2) = 1 then (some false) else (certpathref07_Range.l0 k x0 x3 (!((Int.tmod (shr .u8 (bt x0 (wrap64 (x3 + (wrap64 (Int.tdiv x5 8))))) (wrap64 (7 - (Int.tmod x5 8)))) 2) == 1)) (wrap64 (x5 + 1)))) else (none)) else (none)))) else (if ((Int.tmod (shr .u8 (bt x0 (wrap64 (x3 + (wrap64 (Int.tdiv x5 8))))) (wrap64 (7 - (Int.tmod x5 8)))) 2) = 1) then (if x4 = true then (certpathref07_Range.l0 k x0 x3 true (wrap64 (x5 + 1))) else (certpathref07_Range.l0 k x0 x3 (!((Int.tmod (shr .u8 (bt x0 (wrap64 (x3 + (wrap64 (Int.tdiv x5 8))))) (wrap64 (7 - (Int.tmod x5 8)))) 2) == 1)) (wrap64 (x5 + 1)))) else (if 0 ≤ (wrap64 (Int.tdiv x5 8)) then (if (wrap64 (Int.tdiv x5 8)) < (x0.size : Int) then (if (Int.tmod (shr .u8 (bt x0 (wrap64 (Int.tdiv x5 8))) (wrap64 (7 - (Int.tmod x5 8)))) 2) = 1 then (some false) else (if x4 = true then (certpathref07_Range.l0 k x0 x3 true (wrap64 (x5 + 1))) else (certpathref07_Range.l0 k x0 x3 (!((Int.tmod (shr .u8 (bt x0 (wrap64 (x3 + (wrap64 (Int.tdiv x5 8))))) (wrap64 (7 - (Int.tmod x5 8)))) 2) == 1)) (wrap64 (x5 + 1))))) else (none)) else (none)))) else (none)) else (none)) else (none)) else (some true)
end
def certpathref07_Range.f (k : Nat) (a0 : ByteArray) : Option (Bool) := if (a0.size : Int) = 8 then (certpathref07_Range.j0 k a0 false) else (certpathref07_Range.j0 k a0 ((a0.size : Int) != 32))
theorem certpathref07_Range.mono_l : ∀ k, (∀ y0 y1, LeO (certpathref07_Range.j0 k y0 y1) (certpathref07_Range.j0 (k + 1) y0 y1)) ∧ (∀ y0 y1 y2 y3, LeO (certpathref07_Range.l0 k y0 y1 y2 y3) (certpathref07_Range.l0 (k + 1) y0 y1 y2 y3))
  | 0 => ⟨fun _ _ r h => by simp [certpathref07_Range.j0] at h, fun _ _ _ _ r h => by simp [certpathref07_Range.l0] at h⟩
  | k + 1 => by
    obtain ⟨ih0, ih1⟩ := certpathref07_Range.mono_l k
    refine ⟨?_, ?_⟩
    · intro y0 y1
      unfold certpathref07_Range.j0
      repeat' first
      | (with_reducible exact ih0 _ _)
      | (with_reducible exact ih1 _ _ _ _)
      | (with_reducible exact LeO.refl _)
      | (with_reducible exact LeO.none _)
      | (with_reducible refine LeO.ite ?_ ?_)
      | (with_reducible refine LeO.bind ?_ (fun _ => ?_))
      | exact ih0 _ _
      | exact ih1 _ _ _ _
      | exact LeO.none _
      | refine LeO.ite ?_ ?_
      | refine LeO.bind ?_ (fun _ => ?_)
    · intro y0 y1 y2 y3
      unfold certpathref07_Range.l0
      repeat' first
      | (with_reducible exact ih0 _ _)
      | (with_reducible exact ih1 _ _ _ _)
      | (with_reducible exact LeO.refl _)
      | (with_reducible exact LeO.none _)
      | (with_reducible refine LeO.ite ?_ ?_)
      | (with_reducible refine LeO.bind ?_ (fun _ => ?_))
      | exact ih0 _ _
      | exact ih1 _ _ _ _
      | exact LeO.none _
      | refine LeO.ite ?_ ?_
      | refine LeO.bind ?_ (fun _ => ?_)
theorem certpathref07_Range.mono : ∀ a0 k, LeO (certpathref07_Range.f k a0) (certpathref07_Range.f (k + 1) a0) := by
  intro a0 k
  obtain ⟨ih0, ih1⟩ := certpathref07_Range.mono_l k
  unfold certpathref07_Range.f
  repeat' first
      | (with_reducible exact ih0 _ _)
      | (with_reducible exact ih1 _ _ _ _)
      | (with_reducible exact LeO.refl _)
      | (with_reducible exact LeO.none _)
      | (with_reducible refine LeO.ite ?_ ?_)
      | (with_reducible refine LeO.bind ?_ (fun _ => ?_))
      | exact ih0 _ _
      | exact ih1 _ _ _ _
      | exact LeO.none _
      | refine LeO.ite ?_ ?_
      | refine LeO.bind ?_ (fun _ => ?_)
set_option maxHeartbeats 8000000 in
set_option maxRecDepth 100000 in
theorem certpathref07_Range.calls (k : Nat) (a0 : ByteArray) (r : Bool) (w : World) (hG_ : Ext.G w) (h : certpathref07_Range.f k a0 = some r) :
    Calls Tryd.prog 36 #[.string a0] w fun e w' => e = .returned (.bool r) ∧ Drawn0 w w' := by
  have H : (if (a0.size : Int) = 8 then (certpathref07_Range.j0 k a0 false) else (certpathref07_Range.j0 k a0 ((a0.size : Int) != 32))) = some r := h
  clear h
  have HC2 := Aside0.mk H
  clear H
  go_enter Tryd.func36, Tryd.ntmps36
  go_upto_region 1 with (fail)
  go_cut [14] (fun v14 wc => ∃ (kq : Nat) (x14_1 : Bool), v14 = .bool x14_1 ∧ Aside0 (certpathref07_Range.j0 kq a0 x14_1 = some r) ∧ Aside0 (kq ≤ k) ∧ Drawn0 w wc)
  case first =>
    have H := HC2.out
    clear HC2
    by_cases c3 : (a0.size : Int) = 8
    · rw [if_pos c3] at H
      have c3b0 : ((a0.size : Int) == 8) = true := beq_iff_eq.mpr c3
      have c3b1 : ((a0.size : Int) != 8) = false := bne_eq_false_iff_eq.mpr c3
      clear c3
      (first | rw [c3b0] | (simp only [i64_w, i32_w]; rw [c3b0]) | skip)
      have H' := Aside0.mk H
      clear H
      go_wp2
      go_meet
      case rel => exact ⟨_, (false), (by first | rfl | (simp; done) | (simp [*]; done)), H', ⟨by first | omega | exact Nat.le_refl _⟩, by repeat (first | exact Drawn0.refl _ | apply Drawn0.step)⟩
    · rw [if_neg c3] at H
      have c3b0 : ((a0.size : Int) == 8) = false := beq_eq_false_iff_ne.mpr c3
      have c3b1 : ((a0.size : Int) != 8) = true := bne_iff_ne.mpr c3
      (first | rw [c3b0] | (simp only [i64_w, i32_w]; rw [c3b0]) | skip)
      have H' := Aside0.mk H
      clear H
      go_wp2
      go_meet
      case rel => exact ⟨_, (((a0.size : Int) != 32)), (by first | rfl | (simp; done) | (simp [*]; done)), H', ⟨by first | omega | exact Nat.le_refl _⟩, by repeat (first | exact Drawn0.refl _ | apply Drawn0.step)⟩
  case rest =>
    clear HC2
    try clear p2
    try clear c3
    try clear c3b0
    try clear c3b1
    obtain ⟨kq, x14_1, rfl, HA, HJ1, ⟨mc1, rfl⟩⟩ := hcut
    cases kq with
    | zero => exact absurd HA.out (by simp [certpathref07_Range.j0])
    | succ kj1 =>
      have H := HA.out
      clear HA
      simp only [certpathref07_Range.j0] at H
      by_cases c4 : x14_1 = true
      · subst c4
        have H1 : (some false) = some r := by rw [if_pos rfl] at H; exact H
        clear H
        have H := H1
        clear H1
        obtain rfl := Option.some.inj H
        go_wp2
        go_ret
        exact ⟨by first | rfl | (simp; done) | (simp [*]; done), by repeat (first | exact Drawn0.refl _ | apply Drawn0.step)⟩
      · replace c4 := Bool.eq_false_iff.mpr c4
        subst c4
        have H1 : (certpathref07_Range.l0 kj1 a0 (wrap64 ((a0.size : Int) / 2)) false 0) = some r := by rw [if_neg (show ¬ (false = true) by decide)] at H; exact H
        clear H
        have H := H1
        clear H1
        have H' := Aside0.mk H
        clear H
        go_wp2
        go_loopg [4, 5] kj1 (fun kq v4 v5 w' => ∃ (x4_2 : Bool) (x5_2 : Int), v4 = .bool x4_2 ∧ v5 = .int .i64 x5_2 ∧ Aside0 (certpathref07_Range.l0 kq a0 (wrap64 ((a0.size : Int) / 2)) x4_2 x5_2 = some r) ∧ Aside0 (kq ≤ kj1) ∧ Drawn0 w w')
        case atStart => exact ⟨(false), (0), (by first | rfl | (simp; done) | (simp [*]; done)), (by first | rfl | (simp; done) | (simp [*]; done)), H', ⟨Nat.le_refl _⟩, by repeat (first | exact Drawn0.refl _ | apply Drawn0.step)⟩
        case round =>
          clear H'
          try clear c1
          try clear p2
          try clear c3
          try clear c3b0
          try clear c3b1
          try clear c4
          try clear p2
          obtain ⟨x4_2, x5_2, rfl, rfl, HA, HK2, ⟨m2, rfl⟩⟩ := hrel
          cases gk with
          | zero => exact absurd HA.out (by simp [certpathref07_Range.l0])
          | succ k2 =>
            have H := HA.out
            clear HA
            simp only [certpathref07_Range.l0] at H
            by_cases c5 : x5_2 < (wrap64 (8 * (wrap64 ((a0.size : Int) / 2))))
            · rw [if_pos c5] at H
              have c5b0 : decide (x5_2 < (wrap64 (8 * (wrap64 ((a0.size : Int) / 2))))) = true := decide_eq_true c5
              clear c5
              obtain ⟨ji6, hji6⟩ : ∃ j_ : Int, (wrap64 ((wrap64 ((a0.size : Int) / 2)) + (wrap64 (Int.tdiv x5_2 8)))) = j_ := ⟨_, rfl⟩
              replace H : (if 0 ≤ (ji6) then (if (ji6) < (a0.size : Int) then (if 0 ≤ (wrap64 (7 - (Int.tmod x5_2 8))) then (if (Int.tmod (shr .u8 (bt a0 (ji6)) (wrap64 (7 - (Int.tmod x5_2 8)))) 2) = 1 then (if x4_2 = true then (some false) else (if ((Int.tmod (shr .u8 (bt a0 (ji6)) (wrap64 (7 - (Int.tmod x5_2 8)))) 2) = 1) then (certpathref07_Range.l0 k2 a0 (wrap64 ((a0.size : Int) / 2)) (!((Int.tmod (shr .u8 (bt a0 (ji6)) (wrap64 (7 - (Int.tmod x5_2 8)))) 2) == 1)) (wrap64 (x5_2 + 1))) else (if 0 ≤ (wrap64 (Int.tdiv x5_2 8)) then (if (wrap64 (Int.tdiv x5_2 8)) < (a0.size : Int) then (if (Int.tmod (shr .u8 (bt a0 (wrap64 (Int.tdiv x5_2 8))) (wrap64 (7 - (Int.tmod x5_2 8)))) 2) = 1 then (some false) else (certpathref07_Range.l0 k2 a0 (wrap64 ((a0.size : Int) / 2)) (!((Int.tmod (shr .u8 (bt a0 (ji6)) (wrap64 (7 - (Int.tmod x5_2 8)))) 2) == 1)) (wrap64 (x5_2 + 1)))) else (none)) else (none)))) else (if ((Int.tmod (shr .u8 (bt a0 (ji6)) (wrap64 (7 - (Int.tmod x5_2 8)))) 2) = 1) then (if x4_2 = true then (certpathref07_Range.l0 k2 a0 (wrap64 ((a0.size : Int) / 2)) true (wrap64 (x5_2 + 1))) else (certpathref07_Range.l0 k2 a0 (wrap64 ((a0.size : Int) / 2)) (!((Int.tmod (shr .u8 (bt a0 (ji6)) (wrap64 (7 - (Int.tmod x5_2 8)))) 2) == 1)) (wrap64 (x5_2 + 1)))) else (if 0 ≤ (wrap64 (Int.tdiv x5_2 8)) then (if (wrap64 (Int.tdiv x5_2 8)) < (a0.size : Int) then (if (Int.tmod (shr .u8 (bt a0 (wrap64 (Int.tdiv x5_2 8))) (wrap64 (7 - (Int.tmod x5_2 8)))) 2) = 1 then (some false) else (if x4_2 = true then (certpathref07_Range.l0 k2 a0 (wrap64 ((a0.size : Int) / 2)) true (wrap64 (x5_2 + 1))) else (certpathref07_Range.l0 k2 a0 (wrap64 ((a0.size : Int) / 2)) (!((Int.tmod (shr .u8 (bt a0 (ji6)) (wrap64 (7 - (Int.tmod x5_2 8)))) 2) == 1)) (wrap64 (x5_2 + 1))))) else (none)) else (none)))) else (none)) else (none)) else (none)) = some r := by first | (rw [hji6] at H; exact H) | (simp only [hji6] at H ⊢; exact H)
              have hji6w : (IntKind.i64.wrap ((wrap64 ((a0.size : Int) / 2)) + (wrap64 (Int.tdiv x5_2 8)))) = ji6 := (i64_w _).trans hji6
              by_cases c7 : 0 ≤ (ji6)
              · rw [if_pos c7] at H
                have c7b0 : decide (0 ≤ (ji6)) = true := decide_eq_true c7
                clear c7
                by_cases c8 : (ji6) < (a0.size : Int)
                · rw [if_pos c8] at H
                  have c8b0 : decide ((ji6) < (a0.size : Int)) = true := decide_eq_true c8
                  clear c8
                  obtain ⟨ji10, hji10⟩ : ∃ j_ : Int, (wrap64 (7 - (Int.tmod x5_2 8))) = j_ := ⟨_, rfl⟩
                  replace H : (if 0 ≤ (ji10) then (if (Int.tmod (shr .u8 (bt a0 (ji6)) (ji10)) 2) = 1 then (if x4_2 = true then (some false) else (if ((Int.tmod (shr .u8 (bt a0 (ji6)) (ji10)) 2) = 1) then (certpathref07_Range.l0 k2 a0 (wrap64 ((a0.size : Int) / 2)) (!((Int.tmod (shr .u8 (bt a0 (ji6)) (ji10)) 2) == 1)) (wrap64 (x5_2 + 1))) else (if 0 ≤ (wrap64 (Int.tdiv x5_2 8)) then (if (wrap64 (Int.tdiv x5_2 8)) < (a0.size : Int) then (if (Int.tmod (shr .u8 (bt a0 (wrap64 (Int.tdiv x5_2 8))) (ji10)) 2) = 1 then (some false) else (certpathref07_Range.l0 k2 a0 (wrap64 ((a0.size : Int) / 2)) (!((Int.tmod (shr .u8 (bt a0 (ji6)) (ji10)) 2) == 1)) (wrap64 (x5_2 + 1)))) else (none)) else (none)))) else (if ((Int.tmod (shr .u8 (bt a0 (ji6)) (ji10)) 2) = 1) then (if x4_2 = true then (certpathref07_Range.l0 k2 a0 (wrap64 ((a0.size : Int) / 2)) true (wrap64 (x5_2 + 1))) else (certpathref07_Range.l0 k2 a0 (wrap64 ((a0.size : Int) / 2)) (!((Int.tmod (shr .u8 (bt a0 (ji6)) (ji10)) 2) == 1)) (wrap64 (x5_2 + 1)))) else (if 0 ≤ (wrap64 (Int.tdiv x5_2 8)) then (if (wrap64 (Int.tdiv x5_2 8)) < (a0.size : Int) then (if (Int.tmod (shr .u8 (bt a0 (wrap64 (Int.tdiv x5_2 8))) (ji10)) 2) = 1 then (some false) else (if x4_2 = true then (certpathref07_Range.l0 k2 a0 (wrap64 ((a0.size : Int) / 2)) true (wrap64 (x5_2 + 1))) else (certpathref07_Range.l0 k2 a0 (wrap64 ((a0.size : Int) / 2)) (!((Int.tmod (shr .u8 (bt a0 (ji6)) (ji10)) 2) == 1)) (wrap64 (x5_2 + 1))))) else (none)) else (none)))) else (none)) = some r := by first | (rw [hji10] at H; exact H) | (simp only [hji10] at H ⊢; exact H)
                  have hji10w : (IntKind.i64.wrap (7 - (Int.tmod x5_2 8))) = ji10 := (i64_w _).trans hji10
                  by_cases c11 : 0 ≤ (ji10)
                  · rw [if_pos c11] at H
                    have c11b0 := eq_true c11
                    have c11b1 : decide (0 ≤ (ji10)) = true := decide_eq_true c11
                    clear c11
                    obtain ⟨ji12, hji12⟩ : ∃ j_ : Int, (shr .u8 (bt a0 (ji6)) (ji10)) = j_ := ⟨_, rfl⟩
                    replace H : (if (Int.tmod (ji12) 2) = 1 then (if x4_2 = true then (some false) else (if ((Int.tmod (ji12) 2) = 1) then (certpathref07_Range.l0 k2 a0 (wrap64 ((a0.size : Int) / 2)) (!((Int.tmod (ji12) 2) == 1)) (wrap64 (x5_2 + 1))) else (if 0 ≤ (wrap64 (Int.tdiv x5_2 8)) then (if (wrap64 (Int.tdiv x5_2 8)) < (a0.size : Int) then (if (Int.tmod (shr .u8 (bt a0 (wrap64 (Int.tdiv x5_2 8))) (ji10)) 2) = 1 then (some false) else (certpathref07_Range.l0 k2 a0 (wrap64 ((a0.size : Int) / 2)) (!((Int.tmod (ji12) 2) == 1)) (wrap64 (x5_2 + 1)))) else (none)) else (none)))) else (if ((Int.tmod (ji12) 2) = 1) then (if x4_2 = true then (certpathref07_Range.l0 k2 a0 (wrap64 ((a0.size : Int) / 2)) true (wrap64 (x5_2 + 1))) else (certpathref07_Range.l0 k2 a0 (wrap64 ((a0.size : Int) / 2)) (!((Int.tmod (ji12) 2) == 1)) (wrap64 (x5_2 + 1)))) else (if 0 ≤ (wrap64 (Int.tdiv x5_2 8)) then (if (wrap64 (Int.tdiv x5_2 8)) < (a0.size : Int) then (if (Int.tmod (shr .u8 (bt a0 (wrap64 (Int.tdiv x5_2 8))) (ji10)) 2) = 1 then (some false) else (if x4_2 = true then (certpathref07_Range.l0 k2 a0 (wrap64 ((a0.size : Int) / 2)) true (wrap64 (x5_2 + 1))) else (certpathref07_Range.l0 k2 a0 (wrap64 ((a0.size : Int) / 2)) (!((Int.tmod (ji12) 2) == 1)) (wrap64 (x5_2 + 1))))) else (none)) else (none)))) = some r := by first | (rw [hji12] at H; exact H) | (simp only [hji12] at H ⊢; exact H)
                    have hji12_ : ((bt a0 (ji6)) / 2 ^ min (ji10).toNat 8) = ji12 := hji12
                    have hji12z : (ji10) ≤ 8 → ((bt a0 (ji6)) / 2 ^ (ji10).toNat) = ji12 := shr_small hji12
                    by_cases c13 : (Int.tmod (ji12) 2) = 1
                    · rw [if_pos c13] at H
                      have c13b0 : ((Int.tmod (ji12) 2) == 1) = true := beq_iff_eq.mpr c13
                      have c13b1 : ((Int.tmod (ji12) 2) != 1) = false := bne_eq_false_iff_eq.mpr c13
                      clear c13
                      by_cases c14 : x4_2 = true
                      · subst c14
                        have H1 : (some false) = some r := by rw [if_pos rfl] at H; exact H
                        clear H
                        have H := H1
                        clear H1
                        obtain rfl := Option.some.inj H
                        have p9 : 0 ≤ ((ji6) : Int) := of_decide_eq_true (by first | (with_reducible assumption) | assumption)
                        have q9 : (ji6) < (a0.size : Int) := of_decide_eq_true (by first | (with_reducible assumption) | assumption)
                        have hx9 := bt_at a0 (ji6)
                        replace p9 := eq_true p9
                        replace q9 := eq_true q9
                        go_wp2
                        go_ret
                        exact ⟨by first | rfl | (simp; done) | (simp only [← hji6, ← hji10, ← hji12] <;> (first | rfl | (simp; done))) | (simp [*]; done), by repeat (first | exact Drawn0.refl _ | apply Drawn0.step)⟩
                      · replace c14 := Bool.eq_false_iff.mpr c14
                        subst c14
                        have H1 : (if ((Int.tmod (ji12) 2) = 1) then (certpathref07_Range.l0 k2 a0 (wrap64 ((a0.size : Int) / 2)) (!((Int.tmod (ji12) 2) == 1)) (wrap64 (x5_2 + 1))) else (if 0 ≤ (wrap64 (Int.tdiv x5_2 8)) then (if (wrap64 (Int.tdiv x5_2 8)) < (a0.size : Int) then (if (Int.tmod (shr .u8 (bt a0 (wrap64 (Int.tdiv x5_2 8))) (ji10)) 2) = 1 then (some false) else (certpathref07_Range.l0 k2 a0 (wrap64 ((a0.size : Int) / 2)) (!((Int.tmod (ji12) 2) == 1)) (wrap64 (x5_2 + 1)))) else (none)) else (none))) = some r := by rw [if_neg (show ¬ (false = true) by decide)] at H; exact H
                        clear H
                        have H := H1
                        clear H1
                        by_cases c15 : ((Int.tmod (ji12) 2) = 1)
                        · rw [if_pos c15] at H
                          have c15b0 : ((Int.tmod (ji12) 2) == 1) = true := beq_iff_eq.mpr c15
                          have c15b1 : ((Int.tmod (ji12) 2) != 1) = false := bne_eq_false_iff_eq.mpr c15
                          clear c15
                          have H' := Aside0.mk H
                          clear H
                          have p9 : 0 ≤ ((ji6) : Int) := of_decide_eq_true (by first | (with_reducible assumption) | assumption)
                          have q9 : (ji6) < (a0.size : Int) := of_decide_eq_true (by first | (with_reducible assumption) | assumption)
                          have hx9 := bt_at a0 (ji6)
                          replace p9 := eq_true p9
                          replace q9 := eq_true q9
                          go_wp2
                          go_roundg k2
                          case measure => have := HJ1.out; have := HK2.out; omega
                          case rel => exact ⟨(!((Int.tmod (ji12) 2) == 1)), (wrap64 (x5_2 + 1)), (by first | rfl | (simp; done) | (simp only [← hji12] <;> (first | rfl | (simp; done))) | (simp [*]; done)), (by first | rfl | (simp; done) | (simp [*]; done)), H', ⟨by have := HJ1.out; have := HK2.out; omega⟩, by repeat (first | exact Drawn0.refl _ | apply Drawn0.step)⟩
                        · rw [if_neg c15] at H
                          have c15b0 : ((Int.tmod (ji12) 2) == 1) = false := beq_eq_false_iff_ne.mpr c15
                          exact absurd (c13b0.symm.trans c15b0) (by decide)
                    · rw [if_neg c13] at H
                      have c13b0 : ((Int.tmod (ji12) 2) == 1) = false := beq_eq_false_iff_ne.mpr c13
                      have c13b1 : ((Int.tmod (ji12) 2) != 1) = true := bne_iff_ne.mpr c13
                      by_cases c23 : ((Int.tmod (ji12) 2) = 1)
                      · rw [if_pos c23] at H
                        have c23b0 : ((Int.tmod (ji12) 2) == 1) = true := beq_iff_eq.mpr c23
                        exact absurd (c13b0.symm.trans c23b0) (by decide)
                      · rw [if_neg c23] at H
                        have c23b0 : ((Int.tmod (ji12) 2) == 1) = false := beq_eq_false_iff_ne.mpr c23
                        have c23b1 : ((Int.tmod (ji12) 2) != 1) = true := bne_iff_ne.mpr c23
                        obtain ⟨ji25, hji25⟩ : ∃ j_ : Int, (wrap64 (Int.tdiv x5_2 8)) = j_ := ⟨_, rfl⟩
                        try (have hji6_ji25 := hji6; rw [hji25] at hji6_ji25)
                        replace H : (if 0 ≤ (ji25) then (if (ji25) < (a0.size : Int) then (if (Int.tmod (shr .u8 (bt a0 (ji25)) (ji10)) 2) = 1 then (some false) else (if x4_2 = true then (certpathref07_Range.l0 k2 a0 (wrap64 ((a0.size : Int) / 2)) true (wrap64 (x5_2 + 1))) else (certpathref07_Range.l0 k2 a0 (wrap64 ((a0.size : Int) / 2)) (!((Int.tmod (ji12) 2) == 1)) (wrap64 (x5_2 + 1))))) else (none)) else (none)) = some r := by first | (rw [hji25] at H; exact H) | (simp only [hji25] at H ⊢; exact H)
                        have hji25w : (IntKind.i64.wrap (Int.tdiv x5_2 8)) = ji25 := (i64_w _).trans hji25
                        by_cases c26 : 0 ≤ (ji25)
                        · rw [if_pos c26] at H
                          have c26b0 : decide (0 ≤ (ji25)) = true := decide_eq_true c26
                          clear c26
                          by_cases c27 : (ji25) < (a0.size : Int)
                          · rw [if_pos c27] at H
                            have c27b0 : decide ((ji25) < (a0.size : Int)) = true := decide_eq_true c27
                            clear c27
                            have c29b0 := eq_true (of_decide_eq_true (by first | (with_reducible assumption) | assumption) : 0 ≤ (ji10))
                            obtain ⟨ji30, hji30⟩ : ∃ j_ : Int, (shr .u8 (bt a0 (ji25)) (ji10)) = j_ := ⟨_, rfl⟩
                            replace H : (if (Int.tmod (ji30) 2) = 1 then (some false) else (if x4_2 = true then (certpathref07_Range.l0 k2 a0 (wrap64 ((a0.size : Int) / 2)) true (wrap64 (x5_2 + 1))) else (certpathref07_Range.l0 k2 a0 (wrap64 ((a0.size : Int) / 2)) (!((Int.tmod (ji12) 2) == 1)) (wrap64 (x5_2 + 1))))) = some r := by first | (rw [hji30] at H; exact H) | (simp only [hji30] at H ⊢; exact H)
                            have hji30_ : ((bt a0 (ji25)) / 2 ^ min (ji10).toNat 8) = ji30 := hji30
                            have hji30z : (ji10) ≤ 8 → ((bt a0 (ji25)) / 2 ^ (ji10).toNat) = ji30 := shr_small hji30
                            by_cases c31 : (Int.tmod (ji30) 2) = 1
                            · rw [if_pos c31] at H
                              have c31b0 : ((Int.tmod (ji30) 2) == 1) = true := beq_iff_eq.mpr c31
                              have c31b1 : ((Int.tmod (ji30) 2) != 1) = false := bne_eq_false_iff_eq.mpr c31
                              clear c31
                              obtain rfl := Option.some.inj H
                              have p9 : 0 ≤ ((ji6) : Int) := of_decide_eq_true (by first | (with_reducible assumption) | assumption)
                              have q9 : (ji6) < (a0.size : Int) := of_decide_eq_true (by first | (with_reducible assumption) | assumption)
                              have hx9 := bt_at a0 (ji6)
                              replace p9 := eq_true p9
                              replace q9 := eq_true q9
                              have p28 : 0 ≤ ((ji25) : Int) := of_decide_eq_true (by first | (with_reducible assumption) | assumption)
                              have q28 : (ji25) < (a0.size : Int) := of_decide_eq_true (by first | (with_reducible assumption) | assumption)
                              have hx28 := bt_at a0 (ji25)
                              replace p28 := eq_true p28
                              replace q28 := eq_true q28
                              go_wp2
                              go_ret
                              exact ⟨by first | rfl | (simp; done) | (simp only [← hji6, ← hji10, ← hji12, ← hji25, ← hji30] <;> (first | rfl | (simp; done))) | (simp [*]; done), by repeat (first | exact Drawn0.refl _ | apply Drawn0.step)⟩
                            · rw [if_neg c31] at H
                              have c31b0 : ((Int.tmod (ji30) 2) == 1) = false := beq_eq_false_iff_ne.mpr c31
                              have c31b1 : ((Int.tmod (ji30) 2) != 1) = true := bne_iff_ne.mpr c31
                              by_cases c32 : x4_2 = true
                              · subst c32
                                have H1 : (certpathref07_Range.l0 k2 a0 (wrap64 ((a0.size : Int) / 2)) true (wrap64 (x5_2 + 1))) = some r := by rw [if_pos rfl] at H; exact H
                                clear H
                                have H := H1
                                clear H1
                                have H' := Aside0.mk H
                                clear H
                                have p9 : 0 ≤ ((ji6) : Int) := of_decide_eq_true (by first | (with_reducible assumption) | assumption)
                                have q9 : (ji6) < (a0.size : Int) := of_decide_eq_true (by first | (with_reducible assumption) | assumption)
                                have hx9 := bt_at a0 (ji6)
                                replace p9 := eq_true p9
                                replace q9 := eq_true q9
                                have p28 : 0 ≤ ((ji25) : Int) := of_decide_eq_true (by first | (with_reducible assumption) | assumption)
                                have q28 : (ji25) < (a0.size : Int) := of_decide_eq_true (by first | (with_reducible assumption) | assumption)
                                have hx28 := bt_at a0 (ji25)
                                replace p28 := eq_true p28
                                replace q28 := eq_true q28
                                go_wp2
                                go_roundg k2
                                case measure => have := HJ1.out; have := HK2.out; omega
                                case rel => exact ⟨(true), (wrap64 (x5_2 + 1)), (by first | rfl | (simp; done) | (simp [*]; done)), (by first | rfl | (simp; done) | (simp [*]; done)), H', ⟨by have := HJ1.out; have := HK2.out; omega⟩, by repeat (first | exact Drawn0.refl _ | apply Drawn0.step)⟩
                              · replace c32 := Bool.eq_false_iff.mpr c32
                                subst c32
                                have H1 : (certpathref07_Range.l0 k2 a0 (wrap64 ((a0.size : Int) / 2)) (!((Int.tmod (ji12) 2) == 1)) (wrap64 (x5_2 + 1))) = some r := by rw [if_neg (show ¬ (false = true) by decide)] at H; exact H
                                clear H
                                have H := H1
                                clear H1
                                have H' := Aside0.mk H
                                clear H
                                have p9 : 0 ≤ ((ji6) : Int) := of_decide_eq_true (by first | (with_reducible assumption) | assumption)
                                have q9 : (ji6) < (a0.size : Int) := of_decide_eq_true (by first | (with_reducible assumption) | assumption)
                                have hx9 := bt_at a0 (ji6)
                                replace p9 := eq_true p9
                                replace q9 := eq_true q9
                                have p28 : 0 ≤ ((ji25) : Int) := of_decide_eq_true (by first | (with_reducible assumption) | assumption)
                                have q28 : (ji25) < (a0.size : Int) := of_decide_eq_true (by first | (with_reducible assumption) | assumption)
                                have hx28 := bt_at a0 (ji25)
                                replace p28 := eq_true p28
                                replace q28 := eq_true q28
                                go_wp2
                                go_roundg k2
                                case measure => have := HJ1.out; have := HK2.out; omega
                                case rel => exact ⟨(!((Int.tmod (ji12) 2) == 1)), (wrap64 (x5_2 + 1)), (by first | rfl | (simp; done) | (simp only [← hji12] <;> (first | rfl | (simp; done))) | (simp [*]; done)), (by first | rfl | (simp; done) | (simp [*]; done)), H', ⟨by have := HJ1.out; have := HK2.out; omega⟩, by repeat (first | exact Drawn0.refl _ | apply Drawn0.step)⟩
                          · rw [if_neg c27] at H
                            exact absurd H (by simp)
                        · rw [if_neg c26] at H
                          exact absurd H (by simp)
                  · rw [if_neg c11] at H
                    exact absurd H (by simp)
                · rw [if_neg c8] at H
                  exact absurd H (by simp)
              · rw [if_neg c7] at H
                exact absurd H (by simp)
            · rw [if_neg c5] at H
              have c5b0 : decide (x5_2 < (wrap64 (8 * (wrap64 ((a0.size : Int) / 2))))) = false := decide_eq_false c5
              clear c5
              obtain rfl := Option.some.inj H
              go_wp2
              go_ret
              exact ⟨by first | rfl | (simp; done) | (simp [*]; done), by repeat (first | exact Drawn0.refl _ | apply Drawn0.step)⟩

end Go.Proofs.YtegmenlonpgnpaaDoor.Q
