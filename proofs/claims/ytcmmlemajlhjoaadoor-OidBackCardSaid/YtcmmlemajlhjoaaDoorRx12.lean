-- Written by a program of this session (wip/prn.py) out of the translation, for the seat YtcmmlemajlhjoaaDoor. Not trusted: Lean checks it.
import Derived.Test.YtcmmlemajlhjoaaDoorRx0
import Derived.Test.YtcmmlemajlhjoaaDoorRx10
import Derived.Test.YtcmmlemajlhjoaaDoorRx11
namespace Go.Proofs.YtcmmlemajlhjoaaDoor.Q
open Go.RowKit Go.Proofs.YtcmmlemajlhjoaaDoorW.PrintWords Go.Proofs.YtcmmlemajlhjoaaDoorW.PrintLast Go.Proofs.YtcmmlemajlhjoaaDoorW.PrintMore
attribute [local go_sem] max2_int min2_int max_two min_two max_three min_three max_four min_four   -- for this text's walks alone
set_option linter.unusedVariables false
set_option linter.unusedSimpArgs false

/-! ### certpathref01_DecodeOID: function 20 -/
mutual
def certpathref01_DecodeOID.l0 : Nat → ByteArray → ByteArray → Int → Bool → Int → Int → Option (ByteArray × Int)
  | 0, _, _, _, _, _, _ => none
  | k + 1, x0, x4, x5, x6, x7, x8 => if x8 < (x0.size : Int) then (if x6 = true then (certpathref01_DecodeOID.j1 k x0 x4 x5 x7 x8 false) else (if 0 ≤ x8 then (certpathref01_DecodeOID.j1 k x0 x4 x5 x7 x8 ((bt x0 x8) == 128)) else (none))) else (if (x0.size : Int) = 0 then (some ((⟨#[]⟩ : ByteArray), 11)) else (if x6 = true then (some ((⟨#[]⟩ : ByteArray), 11)) else ((certpathref01_ValidOID.f k x4).bind fun t181 => (if t181 = true then (some (x4, 0)) else (some ((⟨#[]⟩ : ByteArray), 11))))))
def certpathref01_DecodeOID.j1 : Nat → ByteArray → ByteArray → Int → Int → Int → Bool → Option (ByteArray × Int)
  | 0, _, _, _, _, _, _ => none
  | k + 1, x0, x4, x5, x7, x8, x23 => if x23 = true then (some ((⟨#[]⟩ : ByteArray), 11)) else (if 0 ≤ x8 then (if x8 < (x0.size : Int) then (if (wrap64 ((wrap64 (128 * x5)) + (wrap64 (Int.tmod (bt x0 x8) 128)))) > 2147483727 then (some ((⟨#[]⟩ : ByteArray), 11)) else (if (bt x0 x8) ≥ 128 then (certpathref01_DecodeOID.l0 k x0 x4 (wrap64 ((wrap64 (128 * x5)) + (wrap64 (Int.tmod (bt x0 x8) 128)))) (decide ((bt x0 x8) ≥ 128)) x7 (wrap64 (x8 + 1))) else (if x7 = 0 then ((certpathref01_Dec.f k (mn (wrap64 (Int.tdiv (wrap64 ((wrap64 (128 * x5)) + (wrap64 (Int.tmod (bt x0 x8) 128)))) 40)) 2)).bind fun t182 => (if t182.size + 1 ≤ 9223372036854775807 then ((certpathref01_Dec.f k (wrap64 ((wrap64 ((wrap64 (128 * x5)) + (wrap64 (Int.tmod (bt x0 x8) 128)))) - (wrap64 (40 * (mn (wrap64 (Int.tdiv (wrap64 ((wrap64 (128 * x5)) + (wrap64 (Int.tmod (bt x0 x8) 128)))) 40)) 2)))))).bind fun t183 => (if (t182 ++ (⟨#[46]⟩ : ByteArray)).size + t183.size ≤ 9223372036854775807 then (if (1 + 1) > 12 then (some ((⟨#[]⟩ : ByteArray), 11)) else (certpathref01_DecodeOID.l0 k x0 ((t182 ++ (⟨#[46]⟩ : ByteArray)) ++ t183) 0 (decide ((bt x0 x8) ≥ 128)) (1 + 1) (wrap64 (x8 + 1)))) else (none))) else (none))) else ((certpathref01_Dec.f k (wrap64 ((wrap64 (128 * x5)) + (wrap64 (Int.tmod (bt x0 x8) 128))))).bind fun t184 => (if 1 + t184.size ≤ 9223372036854775807 then (if x4.size + ((⟨#[46]⟩ : ByteArray) ++ t184).size ≤ 9223372036854775807 then (if (wrap64 (x7 + 1)) > 12 then (some ((⟨#[]⟩ : ByteArray), 11)) else (certpathref01_DecodeOID.l0 k x0 (x4 ++ ((⟨#[46]⟩ : ByteArray) ++ t184)) 0 (decide ((bt x0 x8) ≥ 128)) (wrap64 (x7 + 1)) (wrap64 (x8 + 1)))) else (none)) else (none)))))) else (none)) else (none))
end
def certpathref01_DecodeOID.f (k : Nat) (a0 : ByteArray) : Option (ByteArray × Int) := certpathref01_DecodeOID.l0 k a0 (⟨#[]⟩ : ByteArray) 0 false 0 0
theorem certpathref01_DecodeOID.mono_l : ∀ k, (∀ y0 y1 y2 y3 y4 y5, LeO (certpathref01_DecodeOID.l0 k y0 y1 y2 y3 y4 y5) (certpathref01_DecodeOID.l0 (k + 1) y0 y1 y2 y3 y4 y5)) ∧ (∀ y0 y1 y2 y3 y4 y5, LeO (certpathref01_DecodeOID.j1 k y0 y1 y2 y3 y4 y5) (certpathref01_DecodeOID.j1 (k + 1) y0 y1 y2 y3 y4 y5))
  | 0 => ⟨fun _ _ _ _ _ _ r h => by simp [certpathref01_DecodeOID.l0] at h, fun _ _ _ _ _ _ r h => by simp [certpathref01_DecodeOID.j1] at h⟩
  | k + 1 => by
    obtain ⟨ih0, ih1⟩ := certpathref01_DecodeOID.mono_l k
    refine ⟨?_, ?_⟩
    · intro y0 y1 y2 y3 y4 y5
      unfold certpathref01_DecodeOID.l0
      repeat' first
      | (with_reducible exact ih0 _ _ _ _ _ _)
      | (with_reducible exact ih1 _ _ _ _ _ _)
      | (with_reducible exact certpathref01_Dec.mono _ _)
      | (with_reducible exact certpathref01_ValidOID.mono _ _)
      | (with_reducible exact LeO.refl _)
      | (with_reducible exact LeO.none _)
      | (with_reducible refine LeO.ite ?_ ?_)
      | (with_reducible refine LeO.bind ?_ (fun _ => ?_))
      | exact ih0 _ _ _ _ _ _
      | exact ih1 _ _ _ _ _ _
      | exact certpathref01_Dec.mono _ _
      | exact certpathref01_ValidOID.mono _ _
      | exact LeO.none _
      | refine LeO.ite ?_ ?_
      | refine LeO.bind ?_ (fun _ => ?_)
    · intro y0 y1 y2 y3 y4 y5
      unfold certpathref01_DecodeOID.j1
      repeat' first
      | (with_reducible exact ih0 _ _ _ _ _ _)
      | (with_reducible exact ih1 _ _ _ _ _ _)
      | (with_reducible exact certpathref01_Dec.mono _ _)
      | (with_reducible exact certpathref01_ValidOID.mono _ _)
      | (with_reducible exact LeO.refl _)
      | (with_reducible exact LeO.none _)
      | (with_reducible refine LeO.ite ?_ ?_)
      | (with_reducible refine LeO.bind ?_ (fun _ => ?_))
      | exact ih0 _ _ _ _ _ _
      | exact ih1 _ _ _ _ _ _
      | exact certpathref01_Dec.mono _ _
      | exact certpathref01_ValidOID.mono _ _
      | exact LeO.none _
      | refine LeO.ite ?_ ?_
      | refine LeO.bind ?_ (fun _ => ?_)
theorem certpathref01_DecodeOID.mono : ∀ a0 k, LeO (certpathref01_DecodeOID.f k a0) (certpathref01_DecodeOID.f (k + 1) a0) := by
  intro a0 k
  obtain ⟨ih0, ih1⟩ := certpathref01_DecodeOID.mono_l k
  unfold certpathref01_DecodeOID.f
  repeat' first
      | (with_reducible exact ih0 _ _ _ _ _ _)
      | (with_reducible exact ih1 _ _ _ _ _ _)
      | (with_reducible exact certpathref01_Dec.mono _ _)
      | (with_reducible exact certpathref01_ValidOID.mono _ _)
      | (with_reducible exact LeO.refl _)
      | (with_reducible exact LeO.none _)
      | (with_reducible refine LeO.ite ?_ ?_)
      | (with_reducible refine LeO.bind ?_ (fun _ => ?_))
      | exact ih0 _ _ _ _ _ _
      | exact ih1 _ _ _ _ _ _
      | exact certpathref01_Dec.mono _ _
      | exact certpathref01_ValidOID.mono _ _
      | exact LeO.none _
      | refine LeO.ite ?_ ?_
      | refine LeO.bind ?_ (fun _ => ?_)
set_option maxHeartbeats 8000000 in
set_option maxRecDepth 100000 in
theorem certpathref01_DecodeOID.calls (k : Nat) (a0 : ByteArray) (r1 : ByteArray) (r2 : Int) (w : World) (hG_ : Ext.G w) (h : certpathref01_DecodeOID.f k a0 = some (r1, r2)) :
    Calls Tryd.prog 20 #[.string a0] w fun e w' => e = .returned (.tuple #[.string r1, .int .i64 r2]) ∧ Below w.heap.size w w' := by
  have HB := Aside0.mk (Below.refl w.heap.size w)
  have H : (certpathref01_DecodeOID.l0 k a0 (⟨#[]⟩ : ByteArray) 0 false 0 0) = some (r1, r2) := h
  clear h
  have H' := Aside0.mk H
  clear H
  go_enter Tryd.func20, Tryd.ntmps20
  go_wp2
  go_loopg [4, 5, 6, 7, 8] k (fun kq v4 v5 v6 v7 v8 w' => ∃ (x4_1 : ByteArray) (x5_1 : Int) (x6_1 : Bool) (x7_1 : Int) (x8_1 : Int), v4 = .string x4_1 ∧ v5 = .int .i64 x5_1 ∧ v6 = .bool x6_1 ∧ v7 = .int .i64 x7_1 ∧ v8 = .int .i64 x8_1 ∧ Aside0 (certpathref01_DecodeOID.l0 kq a0 x4_1 x5_1 x6_1 x7_1 x8_1 = some (r1, r2)) ∧ Aside0 (kq ≤ k) ∧ Aside0 (Below w.heap.size w w'))
  case atStart => exact ⟨((⟨#[]⟩ : ByteArray)), (0), (false), (0), (0), (by first | rfl | (simp; done) | (simp [*]; done)), (by first | rfl | (simp; done) | (simp [*]; done)), (by first | rfl | (simp; done) | (simp [*]; done)), (by first | rfl | (simp; done) | (simp [*]; done)), (by first | rfl | (simp; done) | (simp [*]; done)), H', ⟨Nat.le_refl _⟩, ⟨by repeat (first | (with_reducible first | exact HB.out | apply below_alloc | apply pw_below_drewN | apply below_drew1) | exact HB.out)⟩⟩
  case round =>
    clear H'
    obtain ⟨x4_1, x5_1, x6_1, x7_1, x8_1, rfl, rfl, rfl, rfl, rfl, HA, HK1, HB⟩ := hrel
    cases gk with
    | zero => exact absurd HA.out (by simp [certpathref01_DecodeOID.l0])
    | succ k1 =>
      have H := HA.out
      clear HA
      simp only [certpathref01_DecodeOID.l0] at H
      by_cases c2 : x8_1 < (a0.size : Int)
      · rw [if_pos c2] at H
        have c2b0 : decide (x8_1 < (a0.size : Int)) = true := decide_eq_true c2
        clear c2
        have HC3 := Aside0.mk H
        clear H
        go_upto_region 6 with (fail)
        go_cut [23] (fun v23 wc => ∃ (kq : Nat) (x23_2 : Bool), v23 = .bool x23_2 ∧ Aside0 (certpathref01_DecodeOID.j1 kq a0 x4_1 x5_1 x7_1 x8_1 x23_2 = some (r1, r2)) ∧ Aside0 (kq ≤ k1) ∧ Aside0 (Below w.heap.size w wc))
        case first =>
          have H := HC3.out
          clear HC3
          by_cases c4 : x6_1 = true
          · subst c4
            have H1 : (certpathref01_DecodeOID.j1 k1 a0 x4_1 x5_1 x7_1 x8_1 false) = some (r1, r2) := by rw [if_pos rfl] at H; exact H
            clear H
            have H := H1
            clear H1
            have H' := Aside0.mk H
            clear H
            go_wp2
            go_meet
            case rel => exact ⟨_, (false), (by first | rfl | (simp; done) | (simp [*]; done)), H', ⟨by have := HK1.out; first | omega | exact Nat.le_refl _⟩, ⟨by repeat (first | (with_reducible first | exact HB.out | apply below_alloc | apply pw_below_drewN | apply below_drew1) | exact HB.out)⟩⟩
          · replace c4 := Bool.eq_false_iff.mpr c4
            subst c4
            have H1 : (if 0 ≤ x8_1 then (certpathref01_DecodeOID.j1 k1 a0 x4_1 x5_1 x7_1 x8_1 ((bt a0 x8_1) == 128)) else (none)) = some (r1, r2) := by rw [if_neg (show ¬ (false = true) by decide)] at H; exact H
            clear H
            have H := H1
            clear H1
            by_cases c5 : 0 ≤ x8_1
            · rw [if_pos c5] at H
              have c5b0 : decide (0 ≤ x8_1) = true := decide_eq_true c5
              clear c5
              (first | rw [c5b0] | (simp only [i64_w, i32_w]; rw [c5b0]) | skip)
              have H' := Aside0.mk H
              clear H
              have p6 : 0 ≤ (x8_1 : Int) := of_decide_eq_true (by first | (with_reducible assumption) | assumption)
              have q6 : x8_1 < (a0.size : Int) := of_decide_eq_true (by first | (with_reducible assumption) | assumption)
              have hx6 := bt_at a0 x8_1
              replace p6 := eq_true p6
              replace q6 := eq_true q6
              go_wp2
              go_meet
              case rel => exact ⟨_, (((bt a0 x8_1) == 128)), (by first | rfl | (simp; done) | (simp [*]; done)), H', ⟨by have := HK1.out; first | omega | exact Nat.le_refl _⟩, ⟨by repeat (first | (with_reducible first | exact HB.out | apply below_alloc | apply pw_below_drewN | apply below_drew1) | exact HB.out)⟩⟩
            · rw [if_neg c5] at H
              exact absurd H (by simp)
        case rest =>
          clear HC3
          try clear c2
          try clear c2b0
          try clear p2
          try clear c4
          try clear c5
          try clear c5b0
          try clear p6
          try clear q6
          try clear hx6
          try clear p6
          try clear q6
          obtain ⟨kq, x23_2, rfl, HA, HJ2, HB⟩ := hcut
          cases kq with
          | zero => exact absurd HA.out (by simp [certpathref01_DecodeOID.j1])
          | succ kj2 =>
            have H := HA.out
            clear HA
            simp only [certpathref01_DecodeOID.j1] at H
            by_cases c7 : x23_2 = true
            · subst c7
              have H1 : (some ((⟨#[]⟩ : ByteArray), 11)) = some (r1, r2) := by rw [if_pos rfl] at H; exact H
              clear H
              have H := H1
              clear H1
              simp only [Option.some.injEq, Prod.mk.injEq] at H
              obtain ⟨rfl, rfl⟩ := H
              go_wp2
              go_ret2
              exact ⟨by first | rfl | (simp [errW_none, errW_some] <;> rfl) | (simp [*, errW_none, errW_some] <;> rfl), by repeat (first | (with_reducible first | exact HB.out | apply below_alloc | apply pw_below_drewN | apply below_drew1) | exact HB.out)⟩
            · replace c7 := Bool.eq_false_iff.mpr c7
              subst c7
              have H1 : (if 0 ≤ x8_1 then (if x8_1 < (a0.size : Int) then (if (wrap64 ((wrap64 (128 * x5_1)) + (wrap64 (Int.tmod (bt a0 x8_1) 128)))) > 2147483727 then (some ((⟨#[]⟩ : ByteArray), 11)) else (if (bt a0 x8_1) ≥ 128 then (certpathref01_DecodeOID.l0 kj2 a0 x4_1 (wrap64 ((wrap64 (128 * x5_1)) + (wrap64 (Int.tmod (bt a0 x8_1) 128)))) (decide ((bt a0 x8_1) ≥ 128)) x7_1 (wrap64 (x8_1 + 1))) else (if x7_1 = 0 then ((certpathref01_Dec.f kj2 (mn (wrap64 (Int.tdiv (wrap64 ((wrap64 (128 * x5_1)) + (wrap64 (Int.tmod (bt a0 x8_1) 128)))) 40)) 2)).bind fun t182 => (if t182.size + 1 ≤ 9223372036854775807 then ((certpathref01_Dec.f kj2 (wrap64 ((wrap64 ((wrap64 (128 * x5_1)) + (wrap64 (Int.tmod (bt a0 x8_1) 128)))) - (wrap64 (40 * (mn (wrap64 (Int.tdiv (wrap64 ((wrap64 (128 * x5_1)) + (wrap64 (Int.tmod (bt a0 x8_1) 128)))) 40)) 2)))))).bind fun t183 => (if (t182 ++ (⟨#[46]⟩ : ByteArray)).size + t183.size ≤ 9223372036854775807 then (if (1 + 1) > 12 then (some ((⟨#[]⟩ : ByteArray), 11)) else (certpathref01_DecodeOID.l0 kj2 a0 ((t182 ++ (⟨#[46]⟩ : ByteArray)) ++ t183) 0 (decide ((bt a0 x8_1) ≥ 128)) (1 + 1) (wrap64 (x8_1 + 1)))) else (none))) else (none))) else ((certpathref01_Dec.f kj2 (wrap64 ((wrap64 (128 * x5_1)) + (wrap64 (Int.tmod (bt a0 x8_1) 128))))).bind fun t184 => (if 1 + t184.size ≤ 9223372036854775807 then (if x4_1.size + ((⟨#[46]⟩ : ByteArray) ++ t184).size ≤ 9223372036854775807 then (if (wrap64 (x7_1 + 1)) > 12 then (some ((⟨#[]⟩ : ByteArray), 11)) else (certpathref01_DecodeOID.l0 kj2 a0 (x4_1 ++ ((⟨#[46]⟩ : ByteArray) ++ t184)) 0 (decide ((bt a0 x8_1) ≥ 128)) (wrap64 (x7_1 + 1)) (wrap64 (x8_1 + 1)))) else (none)) else (none)))))) else (none)) else (none)) = some (r1, r2) := by rw [if_neg (show ¬ (false = true) by decide)] at H; exact H
              clear H
              have H := H1
              clear H1
              by_cases c8 : 0 ≤ x8_1
              · rw [if_pos c8] at H
                have c8b0 : decide (0 ≤ x8_1) = true := decide_eq_true c8
                clear c8
                by_cases c9 : x8_1 < (a0.size : Int)
                · rw [if_pos c9] at H
                  have c9b0 : decide (x8_1 < (a0.size : Int)) = true := decide_eq_true c9
                  clear c9
                  by_cases c11 : (wrap64 ((wrap64 (128 * x5_1)) + (wrap64 (Int.tmod (bt a0 x8_1) 128)))) > 2147483727
                  · rw [if_pos c11] at H
                    have c11b0 : decide (2147483727 < (wrap64 ((wrap64 (128 * x5_1)) + (wrap64 (Int.tmod (bt a0 x8_1) 128))))) = true := decide_eq_true c11
                    clear c11
                    simp only [Option.some.injEq, Prod.mk.injEq] at H
                    obtain ⟨rfl, rfl⟩ := H
                    have p10 : 0 ≤ (x8_1 : Int) := of_decide_eq_true (by first | (with_reducible assumption) | assumption)
                    have q10 : x8_1 < (a0.size : Int) := of_decide_eq_true (by first | (with_reducible assumption) | assumption)
                    have hx10 := bt_at a0 x8_1
                    replace p10 := eq_true p10
                    replace q10 := eq_true q10
                    go_wp2
                    go_ret2
                    exact ⟨by first | rfl | (simp [errW_none, errW_some] <;> rfl) | (simp [*, errW_none, errW_some] <;> rfl), by repeat (first | (with_reducible first | exact HB.out | apply below_alloc | apply pw_below_drewN | apply below_drew1) | exact HB.out)⟩
                  · rw [if_neg c11] at H
                    have c11b0 : decide (2147483727 < (wrap64 ((wrap64 (128 * x5_1)) + (wrap64 (Int.tmod (bt a0 x8_1) 128))))) = false := decide_eq_false c11
                    clear c11
                    by_cases c13 : (bt a0 x8_1) ≥ 128
                    · rw [if_pos c13] at H
                      have c13b0 : decide (128 ≤ (bt a0 x8_1)) = true := decide_eq_true c13
                      clear c13
                      have H' := Aside0.mk H
                      clear H
                      have p10 : 0 ≤ (x8_1 : Int) := of_decide_eq_true (by first | (with_reducible assumption) | assumption)
                      have q10 : x8_1 < (a0.size : Int) := of_decide_eq_true (by first | (with_reducible assumption) | assumption)
                      have hx10 := bt_at a0 x8_1
                      replace p10 := eq_true p10
                      replace q10 := eq_true q10
                      have p12 : 0 ≤ (x8_1 : Int) := of_decide_eq_true (by first | (with_reducible assumption) | assumption)
                      have q12 : x8_1 < (a0.size : Int) := of_decide_eq_true (by first | (with_reducible assumption) | assumption)
                      have hx12 := bt_at a0 x8_1
                      replace p12 := eq_true p12
                      replace q12 := eq_true q12
                      go_wp2
                      go_roundg kj2
                      case measure => have := HK1.out; have := HJ2.out; omega
                      case rel => exact ⟨(x4_1), (wrap64 ((wrap64 (128 * x5_1)) + (wrap64 (Int.tmod (bt a0 x8_1) 128)))), (decide ((bt a0 x8_1) ≥ 128)), (x7_1), (wrap64 (x8_1 + 1)), (by first | rfl | (simp; done) | (simp [*]; done)), (by first | rfl | (simp; done) | (simp [*]; done)), (by first | rfl | (simp; done) | (simp [*]; done)), (by first | rfl | (simp; done) | (simp [*]; done)), (by first | rfl | (simp; done) | (simp [*]; done)), H', ⟨by have := HK1.out; have := HJ2.out; omega⟩, ⟨by repeat (first | (with_reducible first | exact HB.out | apply below_alloc | apply pw_below_drewN | apply below_drew1) | exact HB.out)⟩⟩
                    · rw [if_neg c13] at H
                      have c13b0 : decide (128 ≤ (bt a0 x8_1)) = false := decide_eq_false c13
                      clear c13
                      by_cases c14 : x7_1 = 0
                      · rw [if_pos c14] at H
                        have c14b0 : (x7_1 == 0) = true := beq_iff_eq.mpr c14
                        have c14b1 : (x7_1 != 0) = false := bne_eq_false_iff_eq.mpr c14
                        clear c14
                        obtain ⟨ji15, hji15⟩ : ∃ j_ : Int, (mn (wrap64 (Int.tdiv (wrap64 ((wrap64 (128 * x5_1)) + (wrap64 (Int.tmod (bt a0 x8_1) 128)))) 40)) 2) = j_ := ⟨_, rfl⟩
                        replace H : ((certpathref01_Dec.f kj2 (ji15)).bind fun t182 => (if t182.size + 1 ≤ 9223372036854775807 then ((certpathref01_Dec.f kj2 (wrap64 ((wrap64 ((wrap64 (128 * x5_1)) + (wrap64 (Int.tmod (bt a0 x8_1) 128)))) - (wrap64 (40 * (ji15)))))).bind fun t183 => (if (t182 ++ (⟨#[46]⟩ : ByteArray)).size + t183.size ≤ 9223372036854775807 then (if (1 + 1) > 12 then (some ((⟨#[]⟩ : ByteArray), 11)) else (certpathref01_DecodeOID.l0 kj2 a0 ((t182 ++ (⟨#[46]⟩ : ByteArray)) ++ t183) 0 (decide ((bt a0 x8_1) ≥ 128)) (1 + 1) (wrap64 (x8_1 + 1)))) else (none))) else (none))) = some (r1, r2) := by first | (rw [hji15] at H; exact H) | (simp only [hji15] at H ⊢; exact H)
                        have hji15_ : (if 2 < (wrap64 (Int.tdiv (wrap64 ((wrap64 (128 * x5_1)) + (wrap64 (Int.tmod (bt a0 x8_1) 128)))) 40)) then 2 else (wrap64 (Int.tdiv (wrap64 ((wrap64 (128 * x5_1)) + (wrap64 (Int.tmod (bt a0 x8_1) 128)))) 40))) = ji15 := hji15
                        replace H := Option.bind_eq_some_iff.mp H
                        obtain ⟨t182, A160, H⟩ := H
                        replace H : (if t182.size + 1 ≤ 9223372036854775807 then ((certpathref01_Dec.f kj2 (wrap64 ((wrap64 ((wrap64 (128 * x5_1)) + (wrap64 (Int.tmod (bt a0 x8_1) 128)))) - (wrap64 (40 * (ji15)))))).bind fun t183 => (if (t182 ++ (⟨#[46]⟩ : ByteArray)).size + t183.size ≤ 9223372036854775807 then (if (1 + 1) > 12 then (some ((⟨#[]⟩ : ByteArray), 11)) else (certpathref01_DecodeOID.l0 kj2 a0 ((t182 ++ (⟨#[46]⟩ : ByteArray)) ++ t183) 0 (decide ((bt a0 x8_1) ≥ 128)) (1 + 1) (wrap64 (x8_1 + 1)))) else (none))) else (none)) = some (r1, r2) := H
                        have A16 := Aside0.mk A160
                        clear A160
                        by_cases c17 : t182.size + 1 ≤ 9223372036854775807
                        · rw [if_pos c17] at H
                          have c17b0 := eq_true c17
                          have c17b1 : decide (t182.size + 1 ≤ 9223372036854775807) = true := decide_eq_true c17
                          try have c17b2 : (9223372036854775807 < t182.size + 1) = False := eq_false (Nat.not_lt.2 c17)
                          replace H := Option.bind_eq_some_iff.mp H
                          obtain ⟨t183, A180, H⟩ := H
                          replace H : (if (t182 ++ (⟨#[46]⟩ : ByteArray)).size + t183.size ≤ 9223372036854775807 then (if (1 + 1) > 12 then (some ((⟨#[]⟩ : ByteArray), 11)) else (certpathref01_DecodeOID.l0 kj2 a0 ((t182 ++ (⟨#[46]⟩ : ByteArray)) ++ t183) 0 (decide ((bt a0 x8_1) ≥ 128)) (1 + 1) (wrap64 (x8_1 + 1)))) else (none)) = some (r1, r2) := H
                          have A18 := Aside0.mk A180
                          clear A180
                          by_cases c19 : (t182 ++ (⟨#[46]⟩ : ByteArray)).size + t183.size ≤ 9223372036854775807
                          · rw [if_pos c19] at H
                            have c19b0 := eq_true c19
                            try (have c19s0 := c19; simp only [ByteArray.size_append, show (⟨#[46]⟩ : ByteArray).size = 1 from rfl] at c19s0; have c19s1 := eq_true c19s0; have c19s2 := decide_eq_true c19s0; have c19s3 := eq_false (Nat.not_lt.2 c19s0); clear c19s0)
                            have c19b1 : decide ((t182 ++ (⟨#[46]⟩ : ByteArray)).size + t183.size ≤ 9223372036854775807) = true := decide_eq_true c19
                            try have c19b2 : (9223372036854775807 < (t182 ++ (⟨#[46]⟩ : ByteArray)).size + t183.size) = False := eq_false (Nat.not_lt.2 c19)
                            by_cases c20 : (1 + 1) > 12
                            · exact absurd c20 (by decide)
                            · rw [if_neg c20] at H
                              have c20b0 : decide (12 < (1 + 1)) = false := decide_eq_false c20
                              clear c20
                              have H' := Aside0.mk H
                              clear H
                              have p10 : 0 ≤ (x8_1 : Int) := of_decide_eq_true (by first | (with_reducible assumption) | assumption)
                              have q10 : x8_1 < (a0.size : Int) := of_decide_eq_true (by first | (with_reducible assumption) | assumption)
                              have hx10 := bt_at a0 x8_1
                              replace p10 := eq_true p10
                              replace q10 := eq_true q10
                              have p12 : 0 ≤ (x8_1 : Int) := of_decide_eq_true (by first | (with_reducible assumption) | assumption)
                              have q12 : x8_1 < (a0.size : Int) := of_decide_eq_true (by first | (with_reducible assumption) | assumption)
                              have hx12 := bt_at a0 x8_1
                              replace p12 := eq_true p12
                              replace q12 := eq_true q12
                              go_wp2_with (first | ((with_reducible refine gate_callee (f := 24) rfl ?_); refine goesL_ (some 45) rfl rfl Tryd.func24 (by kernel_rfl) rfl #[.int .i64 ji15] rfl (by (try simp only [List.map_toArray, List.map_cons, List.map_nil]); first | done | (simp only [hji15]; rfl) | rfl | (simp only [List.length_drop, List.length_take]; rfl)) ?_; (with_reducible refine (certpathref01_Dec.calls kj2 ji15 t182 _ ?side1 A16.out).mono ?_); (case side1 => refine Ext.G.step ?_ hG_; repeat (first | (with_reducible first | exact HB.out | apply below_alloc | apply pw_below_drewN | apply below_drew1) | exact HB.out)); rintro e w23 ⟨rfl, hb⟩; refine ⟨_, rfl, ?_⟩; have n0_ := Aside0.mk (below_step (by repeat (first | (with_reducible first | exact HB.out | apply below_alloc | apply pw_below_drewN | apply below_drew1) | exact HB.out)) hb); clear HB; have HB := n0_; clear n0_; (try clear hb); (try clear hb2); (try clear hk); (try clear hi)) | ((with_reducible refine gate_callee (f := 24) rfl ?_); refine goesL_ (some 51) rfl rfl Tryd.func24 (by kernel_rfl) rfl #[.int .i64 (wrap64 ((wrap64 ((wrap64 (128 * x5_1)) + (wrap64 (Int.tmod (bt a0 x8_1) 128)))) - (wrap64 (40 * (ji15)))))] rfl (by (try simp only [List.map_toArray, List.map_cons, List.map_nil]); first | done | (simp only [hji15]; rfl) | rfl | (simp only [List.length_drop, List.length_take]; rfl)) ?_; (with_reducible refine (certpathref01_Dec.calls kj2 (wrap64 ((wrap64 ((wrap64 (128 * x5_1)) + (wrap64 (Int.tmod (bt a0 x8_1) 128)))) - (wrap64 (40 * (ji15))))) t183 _ ?side1 A18.out).mono ?_); (case side1 => refine Ext.G.step ?_ hG_; repeat (first | (with_reducible first | exact HB.out | apply below_alloc | apply pw_below_drewN | apply below_drew1) | exact HB.out)); rintro e w24 ⟨rfl, hb⟩; refine ⟨_, rfl, ?_⟩; have n0_ := Aside0.mk (below_step (by repeat (first | (with_reducible first | exact HB.out | apply below_alloc | apply pw_below_drewN | apply below_drew1) | exact HB.out)) hb); clear HB; have HB := n0_; clear n0_; (try clear hb); (try clear hb2); (try clear hk); (try clear hi)))
                              go_roundg kj2
                              case measure => have := HK1.out; have := HJ2.out; omega
                              case rel => exact ⟨((t182 ++ (⟨#[46]⟩ : ByteArray)) ++ t183), (0), (decide ((bt a0 x8_1) ≥ 128)), (1 + 1), (wrap64 (x8_1 + 1)), (by first | rfl | (simp; done) | (simp [*]; done)), (by first | rfl | (simp; done) | (simp [*]; done)), (by first | rfl | (simp; done) | (simp [*]; done)), (by first | rfl | (simp; done) | (simp [*]; done)), (by first | rfl | (simp; done) | (simp [*]; done)), H', ⟨by have := HK1.out; have := HJ2.out; omega⟩, ⟨by repeat (first | (with_reducible first | exact HB.out | apply below_alloc | apply pw_below_drewN | apply below_drew1) | exact HB.out)⟩⟩
                          · rw [if_neg c19] at H
                            exact absurd H (by simp)
                        · rw [if_neg c17] at H
                          exact absurd H (by simp)
                      · rw [if_neg c14] at H
                        have c14b0 : (x7_1 == 0) = false := beq_eq_false_iff_ne.mpr c14
                        have c14b1 : (x7_1 != 0) = true := bne_iff_ne.mpr c14
                        replace H := Option.bind_eq_some_iff.mp H
                        obtain ⟨t184, A250, H⟩ := H
                        replace H : (if 1 + t184.size ≤ 9223372036854775807 then (if x4_1.size + ((⟨#[46]⟩ : ByteArray) ++ t184).size ≤ 9223372036854775807 then (if (wrap64 (x7_1 + 1)) > 12 then (some ((⟨#[]⟩ : ByteArray), 11)) else (certpathref01_DecodeOID.l0 kj2 a0 (x4_1 ++ ((⟨#[46]⟩ : ByteArray) ++ t184)) 0 (decide ((bt a0 x8_1) ≥ 128)) (wrap64 (x7_1 + 1)) (wrap64 (x8_1 + 1)))) else (none)) else (none)) = some (r1, r2) := H
                        have A25 := Aside0.mk A250
                        clear A250
                        by_cases c26 : 1 + t184.size ≤ 9223372036854775807
                        · rw [if_pos c26] at H
                          have c26b0 := eq_true c26
                          have c26b1 : decide (1 + t184.size ≤ 9223372036854775807) = true := decide_eq_true c26
                          try have c26b2 : (9223372036854775807 < 1 + t184.size) = False := eq_false (Nat.not_lt.2 c26)
                          by_cases c27 : x4_1.size + ((⟨#[46]⟩ : ByteArray) ++ t184).size ≤ 9223372036854775807
                          · rw [if_pos c27] at H
                            have c27b0 := eq_true c27
                            try (have c27s0 := c27; simp only [ByteArray.size_append, show (⟨#[46]⟩ : ByteArray).size = 1 from rfl] at c27s0; have c27s1 := eq_true c27s0; have c27s2 := decide_eq_true c27s0; have c27s3 := eq_false (Nat.not_lt.2 c27s0); clear c27s0)
                            have c27b1 : decide (x4_1.size + ((⟨#[46]⟩ : ByteArray) ++ t184).size ≤ 9223372036854775807) = true := decide_eq_true c27
                            try have c27b2 : (9223372036854775807 < x4_1.size + ((⟨#[46]⟩ : ByteArray) ++ t184).size) = False := eq_false (Nat.not_lt.2 c27)
                            by_cases c28 : (wrap64 (x7_1 + 1)) > 12
                            · rw [if_pos c28] at H
                              have c28b0 : decide (12 < (wrap64 (x7_1 + 1))) = true := decide_eq_true c28
                              clear c28
                              simp only [Option.some.injEq, Prod.mk.injEq] at H
                              obtain ⟨rfl, rfl⟩ := H
                              have p10 : 0 ≤ (x8_1 : Int) := of_decide_eq_true (by first | (with_reducible assumption) | assumption)
                              have q10 : x8_1 < (a0.size : Int) := of_decide_eq_true (by first | (with_reducible assumption) | assumption)
                              have hx10 := bt_at a0 x8_1
                              replace p10 := eq_true p10
                              replace q10 := eq_true q10
                              have p12 : 0 ≤ (x8_1 : Int) := of_decide_eq_true (by first | (with_reducible assumption) | assumption)
                              have q12 : x8_1 < (a0.size : Int) := of_decide_eq_true (by first | (with_reducible assumption) | assumption)
                              have hx12 := bt_at a0 x8_1
                              replace p12 := eq_true p12
                              replace q12 := eq_true q12
                              go_wp2_with (first | ((with_reducible refine gate_callee (f := 24) rfl ?_); refine goesL_ (some 55) rfl rfl Tryd.func24 (by kernel_rfl) rfl #[.int .i64 (wrap64 ((wrap64 (128 * x5_1)) + (wrap64 (Int.tmod (bt a0 x8_1) 128))))] rfl (by (try simp only [List.map_toArray, List.map_cons, List.map_nil]); first | done | rfl | (simp only [List.length_drop, List.length_take]; rfl)) ?_; (with_reducible refine (certpathref01_Dec.calls kj2 (wrap64 ((wrap64 (128 * x5_1)) + (wrap64 (Int.tmod (bt a0 x8_1) 128)))) t184 _ ?side1 A25.out).mono ?_); (case side1 => refine Ext.G.step ?_ hG_; repeat (first | (with_reducible first | exact HB.out | apply below_alloc | apply pw_below_drewN | apply below_drew1) | exact HB.out)); rintro e w29 ⟨rfl, hb⟩; refine ⟨_, rfl, ?_⟩; have n0_ := Aside0.mk (below_step (by repeat (first | (with_reducible first | exact HB.out | apply below_alloc | apply pw_below_drewN | apply below_drew1) | exact HB.out)) hb); clear HB; have HB := n0_; clear n0_; (try clear hb); (try clear hb2); (try clear hk); (try clear hi)))
                              go_ret2
                              exact ⟨by first | rfl | (simp [errW_none, errW_some] <;> rfl) | (simp [*, errW_none, errW_some] <;> rfl), by repeat (first | (with_reducible first | exact HB.out | apply below_alloc | apply pw_below_drewN | apply below_drew1) | exact HB.out)⟩
                            · rw [if_neg c28] at H
                              have c28b0 : decide (12 < (wrap64 (x7_1 + 1))) = false := decide_eq_false c28
                              clear c28
                              have H' := Aside0.mk H
                              clear H
                              have p10 : 0 ≤ (x8_1 : Int) := of_decide_eq_true (by first | (with_reducible assumption) | assumption)
                              have q10 : x8_1 < (a0.size : Int) := of_decide_eq_true (by first | (with_reducible assumption) | assumption)
                              have hx10 := bt_at a0 x8_1
                              replace p10 := eq_true p10
                              replace q10 := eq_true q10
                              have p12 : 0 ≤ (x8_1 : Int) := of_decide_eq_true (by first | (with_reducible assumption) | assumption)
                              have q12 : x8_1 < (a0.size : Int) := of_decide_eq_true (by first | (with_reducible assumption) | assumption)
                              have hx12 := bt_at a0 x8_1
                              replace p12 := eq_true p12
                              replace q12 := eq_true q12
                              go_wp2_with (first | ((with_reducible refine gate_callee (f := 24) rfl ?_); refine goesL_ (some 55) rfl rfl Tryd.func24 (by kernel_rfl) rfl #[.int .i64 (wrap64 ((wrap64 (128 * x5_1)) + (wrap64 (Int.tmod (bt a0 x8_1) 128))))] rfl (by (try simp only [List.map_toArray, List.map_cons, List.map_nil]); first | done | rfl | (simp only [List.length_drop, List.length_take]; rfl)) ?_; (with_reducible refine (certpathref01_Dec.calls kj2 (wrap64 ((wrap64 (128 * x5_1)) + (wrap64 (Int.tmod (bt a0 x8_1) 128)))) t184 _ ?side1 A25.out).mono ?_); (case side1 => refine Ext.G.step ?_ hG_; repeat (first | (with_reducible first | exact HB.out | apply below_alloc | apply pw_below_drewN | apply below_drew1) | exact HB.out)); rintro e w30 ⟨rfl, hb⟩; refine ⟨_, rfl, ?_⟩; have n0_ := Aside0.mk (below_step (by repeat (first | (with_reducible first | exact HB.out | apply below_alloc | apply pw_below_drewN | apply below_drew1) | exact HB.out)) hb); clear HB; have HB := n0_; clear n0_; (try clear hb); (try clear hb2); (try clear hk); (try clear hi)))
                              go_roundg kj2
                              case measure => have := HK1.out; have := HJ2.out; omega
                              case rel => exact ⟨(x4_1 ++ ((⟨#[46]⟩ : ByteArray) ++ t184)), (0), (decide ((bt a0 x8_1) ≥ 128)), (wrap64 (x7_1 + 1)), (wrap64 (x8_1 + 1)), (by first | rfl | (simp; done) | (simp [*]; done)), (by first | rfl | (simp; done) | (simp [*]; done)), (by first | rfl | (simp; done) | (simp [*]; done)), (by first | rfl | (simp; done) | (simp [*]; done)), (by first | rfl | (simp; done) | (simp [*]; done)), H', ⟨by have := HK1.out; have := HJ2.out; omega⟩, ⟨by repeat (first | (with_reducible first | exact HB.out | apply below_alloc | apply pw_below_drewN | apply below_drew1) | exact HB.out)⟩⟩
                          · rw [if_neg c27] at H
                            exact absurd H (by simp)
                        · rw [if_neg c26] at H
                          exact absurd H (by simp)
                · rw [if_neg c9] at H
                  exact absurd H (by simp)
              · rw [if_neg c8] at H
                exact absurd H (by simp)
      · rw [if_neg c2] at H
        have c2b0 : decide (x8_1 < (a0.size : Int)) = false := decide_eq_false c2
        clear c2
        by_cases c31 : (a0.size : Int) = 0
        · rw [if_pos c31] at H
          have c31b0 : ((a0.size : Int) == 0) = true := beq_iff_eq.mpr c31
          have c31b1 : ((a0.size : Int) != 0) = false := bne_eq_false_iff_eq.mpr c31
          clear c31
          simp only [Option.some.injEq, Prod.mk.injEq] at H
          obtain ⟨rfl, rfl⟩ := H
          go_wp2
          go_ret2
          exact ⟨by first | rfl | (simp [errW_none, errW_some] <;> rfl) | (simp [*, errW_none, errW_some] <;> rfl), by repeat (first | (with_reducible first | exact HB.out | apply below_alloc | apply pw_below_drewN | apply below_drew1) | exact HB.out)⟩
        · rw [if_neg c31] at H
          have c31b0 : ((a0.size : Int) == 0) = false := beq_eq_false_iff_ne.mpr c31
          have c31b1 : ((a0.size : Int) != 0) = true := bne_iff_ne.mpr c31
          by_cases c32 : x6_1 = true
          · subst c32
            have H1 : (some ((⟨#[]⟩ : ByteArray), 11)) = some (r1, r2) := by rw [if_pos rfl] at H; exact H
            clear H
            have H := H1
            clear H1
            simp only [Option.some.injEq, Prod.mk.injEq] at H
            obtain ⟨rfl, rfl⟩ := H
            go_wp2
            go_ret2
            exact ⟨by first | rfl | (simp [errW_none, errW_some] <;> rfl) | (simp [*, errW_none, errW_some] <;> rfl), by repeat (first | (with_reducible first | exact HB.out | apply below_alloc | apply pw_below_drewN | apply below_drew1) | exact HB.out)⟩
          · replace c32 := Bool.eq_false_iff.mpr c32
            subst c32
            have H1 : ((certpathref01_ValidOID.f k1 x4_1).bind fun t181 => (if t181 = true then (some (x4_1, 0)) else (some ((⟨#[]⟩ : ByteArray), 11)))) = some (r1, r2) := by rw [if_neg (show ¬ (false = true) by decide)] at H; exact H
            clear H
            have H := H1
            clear H1
            replace H := Option.bind_eq_some_iff.mp H
            obtain ⟨t181, A330, H⟩ := H
            replace H : (if t181 = true then (some (x4_1, 0)) else (some ((⟨#[]⟩ : ByteArray), 11))) = some (r1, r2) := H
            have A33 := Aside0.mk A330
            clear A330
            by_cases c34 : t181 = true
            · subst c34
              have H1 : (some (x4_1, 0)) = some (r1, r2) := by rw [if_pos rfl] at H; exact H
              clear H
              have H := H1
              clear H1
              simp only [Option.some.injEq, Prod.mk.injEq] at H
              obtain ⟨rfl, rfl⟩ := H
              go_wp2_with (first | (go_at_call 13; (with_reducible refine (certpathref01_ValidOID.calls k1 x4_1 true _ ?side1 A33.out).mono ?_); (case side1 => refine Ext.G.step ?_ hG_; repeat (first | (with_reducible first | exact HB.out | apply below_alloc | apply pw_below_drewN | apply below_drew1) | exact HB.out)); rintro e w35 ⟨rfl, hb⟩; have n0_ := Aside0.mk (below_step (by repeat (first | (with_reducible first | exact HB.out | apply below_alloc | apply pw_below_drewN | apply below_drew1) | exact HB.out)) hb); clear HB; have HB := n0_; clear n0_; (try clear hb); (try clear hb2); (try clear hk); (try clear hi)))
              go_ret2
              exact ⟨by first | rfl | (simp [errW_none, errW_some] <;> rfl) | (simp [*, errW_none, errW_some] <;> rfl), by repeat (first | (with_reducible first | exact HB.out | apply below_alloc | apply pw_below_drewN | apply below_drew1) | exact HB.out)⟩
            · replace c34 := Bool.eq_false_iff.mpr c34
              subst c34
              have H1 : (some ((⟨#[]⟩ : ByteArray), 11)) = some (r1, r2) := by rw [if_neg (show ¬ (false = true) by decide)] at H; exact H
              clear H
              have H := H1
              clear H1
              simp only [Option.some.injEq, Prod.mk.injEq] at H
              obtain ⟨rfl, rfl⟩ := H
              go_wp2_with (first | (go_at_call 13; (with_reducible refine (certpathref01_ValidOID.calls k1 x4_1 false _ ?side1 A33.out).mono ?_); (case side1 => refine Ext.G.step ?_ hG_; repeat (first | (with_reducible first | exact HB.out | apply below_alloc | apply pw_below_drewN | apply below_drew1) | exact HB.out)); rintro e w36 ⟨rfl, hb⟩; have n0_ := Aside0.mk (below_step (by repeat (first | (with_reducible first | exact HB.out | apply below_alloc | apply pw_below_drewN | apply below_drew1) | exact HB.out)) hb); clear HB; have HB := n0_; clear n0_; (try clear hb); (try clear hb2); (try clear hk); (try clear hi)))
              go_ret2
              exact ⟨by first | rfl | (simp [errW_none, errW_some] <;> rfl) | (simp [*, errW_none, errW_some] <;> rfl), by repeat (first | (with_reducible first | exact HB.out | apply below_alloc | apply pw_below_drewN | apply below_drew1) | exact HB.out)⟩

end Go.Proofs.YtcmmlemajlhjoaaDoor.Q
