-- Written by a program of this session (wip/prn.py) out of the translation, for the seat YtcmmlemajlhjoaaDoor. Not trusted: Lean checks it.
import Derived.Test.YtcmmlemajlhjoaaDoorRx0
namespace Go.Proofs.YtcmmlemajlhjoaaDoor.Q
open Go.RowKit Go.Proofs.YtcmmlemajlhjoaaDoorW.PrintWords Go.Proofs.YtcmmlemajlhjoaaDoorW.PrintLast Go.Proofs.YtcmmlemajlhjoaaDoorW.PrintMore
attribute [local go_sem] max2_int min2_int max_two min_two max_three min_three max_four min_four   -- for this text's walks alone
set_option linter.unusedVariables false
set_option linter.unusedSimpArgs false

/-! ### certpathref01_arcs: function 23 -/
mutual
def certpathref01_arcs.l0 : Nat → ByteArray → List Int → Int → Int → Option (List Int × Bool)
  | 0, _, _, _, _ => none
  | k + 1, x0, x4, x5, x6 => if x6 ≤ (x0.size : Int) then (if x6 < (x0.size : Int) then (if 0 ≤ x6 then (certpathref01_arcs.j1 k x0 x4 x5 x6 ((bt x0 x6) != 46)) else (none)) else (certpathref01_arcs.j1 k x0 x4 x5 x6 false)) else (if (x4.length : Int) < 2 then (some (([] : List Int), false)) else (if 0 < (x4.length : Int) then (if (rd x4 0) > 2 then (some (([] : List Int), false)) else (if (rd x4 0) < 2 then (if 1 < (x4.length : Int) then (if (rd x4 1) > 39 then (some (([] : List Int), false)) else (some (x4, true))) else (none)) else (some (x4, true)))) else (none)))
def certpathref01_arcs.j1 : Nat → ByteArray → List Int → Int → Int → Bool → Option (List Int × Bool)
  | 0, _, _, _, _, _ => none
  | k + 1, x0, x4, x5, x6, x25 => if x25 = true then (if 0 ≤ x6 then (if x6 < (x0.size : Int) then (if (bt x0 x6) < 48 then (some (([] : List Int), false)) else (if (bt x0 x6) > 57 then (some (([] : List Int), false)) else (certpathref01_arcs.l0 k x0 x4 x5 (wrap64 (x6 + 1))))) else (none)) else (none)) else (if 0 ≤ x5 then (if x5 ≤ x6 then (if x6 ≤ (x0.size : Int) then (if ((x0.extract (x5 : Int).toNat (x6 : Int).toNat).size : Int) = 0 then (certpathref01_arcs.j2 k x0 x4 x6 (x0.extract (x5 : Int).toNat (x6 : Int).toNat) true) else (if ((x0.extract (x5 : Int).toNat (x6 : Int).toNat).size : Int) > 10 then (certpathref01_arcs.j2 k x0 x4 x6 (x0.extract (x5 : Int).toNat (x6 : Int).toNat) true) else (if ((x0.extract (x5 : Int).toNat (x6 : Int).toNat).size : Int) > 1 then (if 0 < ((x0.extract (x5 : Int).toNat (x6 : Int).toNat).size : Int) then (if (bt (x0.extract (x5 : Int).toNat (x6 : Int).toNat) 0) = 48 then (certpathref01_arcs.j2 k x0 x4 x6 (x0.extract (x5 : Int).toNat (x6 : Int).toNat) true) else (certpathref01_arcs.j2 k x0 x4 x6 (x0.extract (x5 : Int).toNat (x6 : Int).toNat) ((x4.length : Int) == 12))) else (none)) else (certpathref01_arcs.j2 k x0 x4 x6 (x0.extract (x5 : Int).toNat (x6 : Int).toNat) ((x4.length : Int) == 12))))) else (none)) else (none)) else (none))
def certpathref01_arcs.j2 : Nat → ByteArray → List Int → Int → ByteArray → Bool → Option (List Int × Bool)
  | 0, _, _, _, _, _ => none
  | k + 1, x0, x4, x6, x7, x62 => if x62 = true then (some (([] : List Int), false)) else (certpathref01_arcs.l1 k x0 x4 x6 x7 0 0)
def certpathref01_arcs.l1 : Nat → ByteArray → List Int → Int → ByteArray → Int → Int → Option (List Int × Bool)
  | 0, _, _, _, _, _, _ => none
  | k + 1, x0, x4, x6, x7, x8, x9 => if x9 < (x7.size : Int) then (if 0 ≤ x9 then (certpathref01_arcs.l1 k x0 x4 x6 x7 (wrap64 ((wrap64 (10 * x8)) + (((bt x7 x9) - 48) % 256))) (wrap64 (x9 + 1))) else (none)) else (if x8 > 2147483647 then (some (([] : List Int), false)) else (if x4.length < 17592186044416 then (certpathref01_arcs.l0 k x0 (x4 ++ [x8]) (wrap64 (x6 + 1)) (wrap64 (x6 + 1))) else (none)))
end
def certpathref01_arcs.f (k : Nat) (a0 : ByteArray) : Option (List Int × Bool) := certpathref01_arcs.l0 k a0 ([] : List Int) 0 0
theorem certpathref01_arcs.mono_l : ∀ k, (∀ y0 y1 y2 y3, LeO (certpathref01_arcs.l0 k y0 y1 y2 y3) (certpathref01_arcs.l0 (k + 1) y0 y1 y2 y3)) ∧ (∀ y0 y1 y2 y3 y4, LeO (certpathref01_arcs.j1 k y0 y1 y2 y3 y4) (certpathref01_arcs.j1 (k + 1) y0 y1 y2 y3 y4)) ∧ (∀ y0 y1 y2 y3 y4, LeO (certpathref01_arcs.j2 k y0 y1 y2 y3 y4) (certpathref01_arcs.j2 (k + 1) y0 y1 y2 y3 y4)) ∧ (∀ y0 y1 y2 y3 y4 y5, LeO (certpathref01_arcs.l1 k y0 y1 y2 y3 y4 y5) (certpathref01_arcs.l1 (k + 1) y0 y1 y2 y3 y4 y5))
  | 0 => ⟨fun _ _ _ _ r h => by simp [certpathref01_arcs.l0] at h, fun _ _ _ _ _ r h => by simp [certpathref01_arcs.j1] at h, fun _ _ _ _ _ r h => by simp [certpathref01_arcs.j2] at h, fun _ _ _ _ _ _ r h => by simp [certpathref01_arcs.l1] at h⟩
  | k + 1 => by
    obtain ⟨ih0, ih1, ih2, ih3⟩ := certpathref01_arcs.mono_l k
    refine ⟨?_, ?_, ?_, ?_⟩
    · intro y0 y1 y2 y3
      unfold certpathref01_arcs.l0
      repeat' first
      | (with_reducible exact ih0 _ _ _ _)
      | (with_reducible exact ih1 _ _ _ _ _)
      | (with_reducible exact ih2 _ _ _ _ _)
      | (with_reducible exact ih3 _ _ _ _ _ _)
      | (with_reducible exact LeO.refl _)
      | (with_reducible exact LeO.none _)
      | (with_reducible refine LeO.ite ?_ ?_)
      | (with_reducible refine LeO.bind ?_ (fun _ => ?_))
      | exact ih0 _ _ _ _
      | exact ih1 _ _ _ _ _
      | exact ih2 _ _ _ _ _
      | exact ih3 _ _ _ _ _ _
      | exact LeO.none _
      | refine LeO.ite ?_ ?_
      | refine LeO.bind ?_ (fun _ => ?_)
    · intro y0 y1 y2 y3 y4
      unfold certpathref01_arcs.j1
      repeat' first
      | (with_reducible exact ih0 _ _ _ _)
      | (with_reducible exact ih1 _ _ _ _ _)
      | (with_reducible exact ih2 _ _ _ _ _)
      | (with_reducible exact ih3 _ _ _ _ _ _)
      | (with_reducible exact LeO.refl _)
      | (with_reducible exact LeO.none _)
      | (with_reducible refine LeO.ite ?_ ?_)
      | (with_reducible refine LeO.bind ?_ (fun _ => ?_))
      | exact ih0 _ _ _ _
      | exact ih1 _ _ _ _ _
      | exact ih2 _ _ _ _ _
      | exact ih3 _ _ _ _ _ _
      | exact LeO.none _
      | refine LeO.ite ?_ ?_
      | refine LeO.bind ?_ (fun _ => ?_)
    · intro y0 y1 y2 y3 y4
      unfold certpathref01_arcs.j2
      repeat' first
      | (with_reducible exact ih0 _ _ _ _)
      | (with_reducible exact ih1 _ _ _ _ _)
      | (with_reducible exact ih2 _ _ _ _ _)
      | (with_reducible exact ih3 _ _ _ _ _ _)
      | (with_reducible exact LeO.refl _)
      | (with_reducible exact LeO.none _)
      | (with_reducible refine LeO.ite ?_ ?_)
      | (with_reducible refine LeO.bind ?_ (fun _ => ?_))
      | exact ih0 _ _ _ _
      | exact ih1 _ _ _ _ _
      | exact ih2 _ _ _ _ _
      | exact ih3 _ _ _ _ _ _
      | exact LeO.none _
      | refine LeO.ite ?_ ?_
      | refine LeO.bind ?_ (fun _ => ?_)
    · intro y0 y1 y2 y3 y4 y5
      unfold certpathref01_arcs.l1
      repeat' first
      | (with_reducible exact ih0 _ _ _ _)
      | (with_reducible exact ih1 _ _ _ _ _)
      | (with_reducible exact ih2 _ _ _ _ _)
      | (with_reducible exact ih3 _ _ _ _ _ _)
      | (with_reducible exact LeO.refl _)
      | (with_reducible exact LeO.none _)
      | (with_reducible refine LeO.ite ?_ ?_)
      | (with_reducible refine LeO.bind ?_ (fun _ => ?_))
      | exact ih0 _ _ _ _
      | exact ih1 _ _ _ _ _
      | exact ih2 _ _ _ _ _
      | exact ih3 _ _ _ _ _ _
      | exact LeO.none _
      | refine LeO.ite ?_ ?_
      | refine LeO.bind ?_ (fun _ => ?_)
theorem certpathref01_arcs.mono : ∀ a0 k, LeO (certpathref01_arcs.f k a0) (certpathref01_arcs.f (k + 1) a0) := by
  intro a0 k
  obtain ⟨ih0, ih1, ih2, ih3⟩ := certpathref01_arcs.mono_l k
  unfold certpathref01_arcs.f
  repeat' first
      | (with_reducible exact ih0 _ _ _ _)
      | (with_reducible exact ih1 _ _ _ _ _)
      | (with_reducible exact ih2 _ _ _ _ _)
      | (with_reducible exact ih3 _ _ _ _ _ _)
      | (with_reducible exact LeO.refl _)
      | (with_reducible exact LeO.none _)
      | (with_reducible refine LeO.ite ?_ ?_)
      | (with_reducible refine LeO.bind ?_ (fun _ => ?_))
      | exact ih0 _ _ _ _
      | exact ih1 _ _ _ _ _
      | exact ih2 _ _ _ _ _
      | exact ih3 _ _ _ _ _ _
      | exact LeO.none _
      | refine LeO.ite ?_ ?_
      | refine LeO.bind ?_ (fun _ => ?_)
set_option maxHeartbeats 8000000 in
set_option maxRecDepth 100000 in
theorem certpathref01_arcs.calls (k : Nat) (a0 : ByteArray) (r1 : List Int) (r2 : Bool) (w : World) (hG_ : Ext.G w) (h : certpathref01_arcs.f k a0 = some (r1, r2)) :
    Calls Tryd.prog 23 #[.string a0] w fun e w' => ∃ v0_ : Value, e = .returned (.tuple #[v0_, .bool r2]) ∧ Kd.R (Kd.int .i64) 3 w' w.heap.size (fun _ => True) v0_ r1 ∧ Below w.heap.size w w' := by
  have HB := Aside0.mk (Below.refl w.heap.size w)
  have H : (certpathref01_arcs.l0 k a0 ([] : List Int) 0 0) = some (r1, r2) := h
  clear h
  have H' := Aside0.mk H
  clear H
  go_enter Tryd.func23, Tryd.ntmps23
  go_wp2
  go_loopg [4, 5, 6] k (fun kq v4 v5 v6 w' => ∃ (x4_1 : List Int) (x5_1 : Int) (x6_1 : Int), v5 = .int .i64 x5_1 ∧ v6 = .int .i64 x6_1 ∧ Aside0 (certpathref01_arcs.l0 kq a0 x4_1 x5_1 x6_1 = some (r1, r2)) ∧ Aside0 (kq ≤ k) ∧ Aside0 (Kd.R (Kd.int .i64) 3 w' w.heap.size (fun _ => True) v4 x4_1) ∧ Aside0 (Below w.heap.size w w'))
  case atStart => exact ⟨(([] : List Int)), (0), (0), (by first | rfl | (simp; done) | (simp [*]; done)), (by first | rfl | (simp; done) | (simp [*]; done)), H', ⟨Nat.le_refl _⟩, ⟨by first | exact Kd.R_nil _ _ _ _ _ | exact Kd.N_nil _ _ _ _ _ | exact Kd.V_nil _ _ _ _ _ | exact Kd.Q_nil _ _ _ _ _ | exact Kd.S_nil _ _ _ _ _⟩, ⟨by repeat (first | (with_reducible first | exact HB.out | apply below_alloc | apply pw_below_drewN | apply below_drew1) | exact HB.out)⟩⟩
  case round =>
    clear H'
    obtain ⟨x4_1, x5_1, x6_1, rfl, rfl, HA, HK1, HO_4, HB⟩ := hrel
    cases gk with
    | zero => exact absurd HA.out (by simp [certpathref01_arcs.l0])
    | succ k1 =>
      have H := HA.out
      clear HA
      simp only [certpathref01_arcs.l0] at H
      by_cases c2 : x6_1 ≤ (a0.size : Int)
      · rw [if_pos c2] at H
        have c2b0 : decide (x6_1 ≤ (a0.size : Int)) = true := decide_eq_true c2
        clear c2
        have HC3 := Aside0.mk H
        clear H
        go_upto_region 6 with (fail)
        go_cut [25] (fun v25 wc => ∃ (kq : Nat) (x25_2 : Bool), v25 = .bool x25_2 ∧ Aside0 (certpathref01_arcs.j1 kq a0 x4_1 x5_1 x6_1 x25_2 = some (r1, r2)) ∧ Aside0 (kq ≤ k1) ∧ Aside0 (Kd.R (Kd.int .i64) 3 wc w.heap.size (fun _ => True) u4 x4_1) ∧ Aside0 (Below w.heap.size w wc))
        case first =>
          have H := HC3.out
          clear HC3
          by_cases c4 : x6_1 < (a0.size : Int)
          · rw [if_pos c4] at H
            have c4b0 : decide (x6_1 < (a0.size : Int)) = true := decide_eq_true c4
            clear c4
            (first | rw [c4b0] | (simp only [i64_w, i32_w]; rw [c4b0]) | skip)
            by_cases c5 : 0 ≤ x6_1
            · rw [if_pos c5] at H
              have c5b0 : decide (0 ≤ x6_1) = true := decide_eq_true c5
              clear c5
              have H' := Aside0.mk H
              clear H
              have p6 : 0 ≤ (x6_1 : Int) := of_decide_eq_true (by first | (with_reducible assumption) | assumption)
              have q6 : x6_1 < (a0.size : Int) := of_decide_eq_true (by first | (with_reducible assumption) | assumption)
              have hx6 := bt_at a0 x6_1
              replace p6 := eq_true p6
              replace q6 := eq_true q6
              go_wp2
              go_meet
              case rel => exact ⟨_, (((bt a0 x6_1) != 46)), (by first | rfl | (simp; done) | (simp [*]; done)), H', ⟨by have := HK1.out; first | omega | exact Nat.le_refl _⟩, ⟨by (with_reducible repeat (first | apply Kd.R_alloc | apply Kd.R_drewN | apply Kd.R_drew)); exact HO_4.out⟩, ⟨by repeat (first | (with_reducible first | exact HB.out | apply below_alloc | apply pw_below_drewN | apply below_drew1) | exact HB.out)⟩⟩
            · rw [if_neg c5] at H
              exact absurd H (by simp)
          · rw [if_neg c4] at H
            have c4b0 : decide (x6_1 < (a0.size : Int)) = false := decide_eq_false c4
            clear c4
            (first | rw [c4b0] | (simp only [i64_w, i32_w]; rw [c4b0]) | skip)
            have H' := Aside0.mk H
            clear H
            go_wp2
            go_meet
            case rel => exact ⟨_, (false), (by first | rfl | (simp; done) | (simp [*]; done)), H', ⟨by have := HK1.out; first | omega | exact Nat.le_refl _⟩, ⟨by (with_reducible repeat (first | apply Kd.R_alloc | apply Kd.R_drewN | apply Kd.R_drew)); exact HO_4.out⟩, ⟨by repeat (first | (with_reducible first | exact HB.out | apply below_alloc | apply pw_below_drewN | apply below_drew1) | exact HB.out)⟩⟩
        case rest =>
          clear HC3
          try clear c2
          try clear c2b0
          try clear p2
          try clear c4
          try clear c4b0
          try clear c5
          try clear c5b0
          try clear p6
          try clear q6
          try clear hx6
          try clear p6
          try clear q6
          obtain ⟨kq, x25_2, rfl, HA, HJ2, HO_4, HB⟩ := hcut
          cases kq with
          | zero => exact absurd HA.out (by simp [certpathref01_arcs.j1])
          | succ kj2 =>
            have H := HA.out
            clear HA
            simp only [certpathref01_arcs.j1] at H
            by_cases c7 : x25_2 = true
            · subst c7
              have H1 : (if 0 ≤ x6_1 then (if x6_1 < (a0.size : Int) then (if (bt a0 x6_1) < 48 then (some (([] : List Int), false)) else (if (bt a0 x6_1) > 57 then (some (([] : List Int), false)) else (certpathref01_arcs.l0 kj2 a0 x4_1 x5_1 (wrap64 (x6_1 + 1))))) else (none)) else (none)) = some (r1, r2) := by rw [if_pos rfl] at H; exact H
              clear H
              have H := H1
              clear H1
              by_cases c8 : 0 ≤ x6_1
              · rw [if_pos c8] at H
                have c8b0 : decide (0 ≤ x6_1) = true := decide_eq_true c8
                clear c8
                by_cases c9 : x6_1 < (a0.size : Int)
                · rw [if_pos c9] at H
                  have c9b0 : decide (x6_1 < (a0.size : Int)) = true := decide_eq_true c9
                  clear c9
                  by_cases c11 : (bt a0 x6_1) < 48
                  · rw [if_pos c11] at H
                    have c11b0 : decide ((bt a0 x6_1) < 48) = true := decide_eq_true c11
                    clear c11
                    simp only [Option.some.injEq, Prod.mk.injEq] at H
                    obtain ⟨rfl, rfl⟩ := H
                    have p10 : 0 ≤ (x6_1 : Int) := of_decide_eq_true (by first | (with_reducible assumption) | assumption)
                    have q10 : x6_1 < (a0.size : Int) := of_decide_eq_true (by first | (with_reducible assumption) | assumption)
                    have hx10 := bt_at a0 x6_1
                    replace p10 := eq_true p10
                    replace q10 := eq_true q10
                    go_wp2
                    go_ret2
                    exact ⟨_, by first | rfl | (simp [errW_none, errW_some] <;> rfl) | (simp [*, errW_none, errW_some] <;> rfl), by first | exact Kd.R_nil _ _ _ _ _ | exact Kd.N_nil _ _ _ _ _ | exact Kd.V_nil _ _ _ _ _ | exact Kd.Q_nil _ _ _ _ _ | exact Kd.S_nil _ _ _ _ _, by repeat (first | (with_reducible first | exact HB.out | apply below_alloc | apply pw_below_drewN | apply below_drew1) | exact HB.out)⟩
                  · rw [if_neg c11] at H
                    have c11b0 : decide ((bt a0 x6_1) < 48) = false := decide_eq_false c11
                    clear c11
                    by_cases c13 : (bt a0 x6_1) > 57
                    · rw [if_pos c13] at H
                      have c13b0 : decide (57 < (bt a0 x6_1)) = true := decide_eq_true c13
                      clear c13
                      simp only [Option.some.injEq, Prod.mk.injEq] at H
                      obtain ⟨rfl, rfl⟩ := H
                      have p10 : 0 ≤ (x6_1 : Int) := of_decide_eq_true (by first | (with_reducible assumption) | assumption)
                      have q10 : x6_1 < (a0.size : Int) := of_decide_eq_true (by first | (with_reducible assumption) | assumption)
                      have hx10 := bt_at a0 x6_1
                      replace p10 := eq_true p10
                      replace q10 := eq_true q10
                      have p12 : 0 ≤ (x6_1 : Int) := of_decide_eq_true (by first | (with_reducible assumption) | assumption)
                      have q12 : x6_1 < (a0.size : Int) := of_decide_eq_true (by first | (with_reducible assumption) | assumption)
                      have hx12 := bt_at a0 x6_1
                      replace p12 := eq_true p12
                      replace q12 := eq_true q12
                      go_wp2
                      go_ret2
                      exact ⟨_, by first | rfl | (simp [errW_none, errW_some] <;> rfl) | (simp [*, errW_none, errW_some] <;> rfl), by first | exact Kd.R_nil _ _ _ _ _ | exact Kd.N_nil _ _ _ _ _ | exact Kd.V_nil _ _ _ _ _ | exact Kd.Q_nil _ _ _ _ _ | exact Kd.S_nil _ _ _ _ _, by repeat (first | (with_reducible first | exact HB.out | apply below_alloc | apply pw_below_drewN | apply below_drew1) | exact HB.out)⟩
                    · rw [if_neg c13] at H
                      have c13b0 : decide (57 < (bt a0 x6_1)) = false := decide_eq_false c13
                      clear c13
                      have H' := Aside0.mk H
                      clear H
                      have p10 : 0 ≤ (x6_1 : Int) := of_decide_eq_true (by first | (with_reducible assumption) | assumption)
                      have q10 : x6_1 < (a0.size : Int) := of_decide_eq_true (by first | (with_reducible assumption) | assumption)
                      have hx10 := bt_at a0 x6_1
                      replace p10 := eq_true p10
                      replace q10 := eq_true q10
                      have p12 : 0 ≤ (x6_1 : Int) := of_decide_eq_true (by first | (with_reducible assumption) | assumption)
                      have q12 : x6_1 < (a0.size : Int) := of_decide_eq_true (by first | (with_reducible assumption) | assumption)
                      have hx12 := bt_at a0 x6_1
                      replace p12 := eq_true p12
                      replace q12 := eq_true q12
                      go_wp2
                      go_roundg kj2
                      case measure => have := HK1.out; have := HJ2.out; omega
                      case rel => exact ⟨(x4_1), (x5_1), (wrap64 (x6_1 + 1)), (by first | rfl | (simp; done) | (simp [*]; done)), (by first | rfl | (simp; done) | (simp [*]; done)), H', ⟨by have := HK1.out; have := HJ2.out; omega⟩, ⟨by (with_reducible repeat (first | apply Kd.R_alloc | apply Kd.R_drewN | apply Kd.R_drew)); exact HO_4.out⟩, ⟨by repeat (first | (with_reducible first | exact HB.out | apply below_alloc | apply pw_below_drewN | apply below_drew1) | exact HB.out)⟩⟩
                · rw [if_neg c9] at H
                  exact absurd H (by simp)
              · rw [if_neg c8] at H
                exact absurd H (by simp)
            · replace c7 := Bool.eq_false_iff.mpr c7
              subst c7
              have H1 : (if 0 ≤ x5_1 then (if x5_1 ≤ x6_1 then (if x6_1 ≤ (a0.size : Int) then (if ((a0.extract (x5_1 : Int).toNat (x6_1 : Int).toNat).size : Int) = 0 then (certpathref01_arcs.j2 kj2 a0 x4_1 x6_1 (a0.extract (x5_1 : Int).toNat (x6_1 : Int).toNat) true) else (if ((a0.extract (x5_1 : Int).toNat (x6_1 : Int).toNat).size : Int) > 10 then (certpathref01_arcs.j2 kj2 a0 x4_1 x6_1 (a0.extract (x5_1 : Int).toNat (x6_1 : Int).toNat) true) else (if ((a0.extract (x5_1 : Int).toNat (x6_1 : Int).toNat).size : Int) > 1 then (if 0 < ((a0.extract (x5_1 : Int).toNat (x6_1 : Int).toNat).size : Int) then (if (bt (a0.extract (x5_1 : Int).toNat (x6_1 : Int).toNat) 0) = 48 then (certpathref01_arcs.j2 kj2 a0 x4_1 x6_1 (a0.extract (x5_1 : Int).toNat (x6_1 : Int).toNat) true) else (certpathref01_arcs.j2 kj2 a0 x4_1 x6_1 (a0.extract (x5_1 : Int).toNat (x6_1 : Int).toNat) ((x4_1.length : Int) == 12))) else (none)) else (certpathref01_arcs.j2 kj2 a0 x4_1 x6_1 (a0.extract (x5_1 : Int).toNat (x6_1 : Int).toNat) ((x4_1.length : Int) == 12))))) else (none)) else (none)) else (none)) = some (r1, r2) := by rw [if_neg (show ¬ (false = true) by decide)] at H; exact H
              clear H
              have H := H1
              clear H1
              by_cases c14 : 0 ≤ x5_1
              · rw [if_pos c14] at H
                have c14b0 := eq_true c14
                have c14b1 : decide (0 ≤ x5_1) = true := decide_eq_true c14
                clear c14
                by_cases c15 : x5_1 ≤ x6_1
                · rw [if_pos c15] at H
                  have c15b0 := eq_true c15
                  have c15b1 : decide (x5_1 ≤ x6_1) = true := decide_eq_true c15
                  clear c15
                  by_cases c16 : x6_1 ≤ (a0.size : Int)
                  · rw [if_pos c16] at H
                    have c16b0 := eq_true c16
                    have c16b1 : decide (x6_1 ≤ (a0.size : Int)) = true := decide_eq_true c16
                    clear c16
                    have HC17 := Aside0.mk H
                    clear H
                    go_upto_region 10 with (fail)
                    generalize hdc1_ : a0.extract (x5_1 : Int).toNat (x6_1 : Int).toNat = dcut1_ at *
                    go_cut [62] (fun v62 wc => ∃ (kq : Nat) (x62_16 : Bool), v62 = .bool x62_16 ∧ Aside0 (certpathref01_arcs.j2 kq a0 x4_1 x6_1 dcut1_ x62_16 = some (r1, r2)) ∧ Aside0 (kq ≤ kj2) ∧ Aside0 (Kd.R (Kd.int .i64) 3 wc w.heap.size (fun _ => True) u4 x4_1) ∧ Aside0 (Below w.heap.size w wc))
                    case first =>
                      have H := HC17.out
                      clear HC17
                      by_cases c18 : (dcut1_.size : Int) = 0
                      · rw [if_pos c18] at H
                        have c18b0 : ((dcut1_.size : Int) == 0) = true := beq_iff_eq.mpr c18
                        have c18b1 : ((dcut1_.size : Int) != 0) = false := bne_eq_false_iff_eq.mpr c18
                        clear c18
                        (first | rw [c18b0] | (simp only [i64_w, i32_w]; rw [c18b0]) | skip)
                        have H' := Aside0.mk H
                        clear H
                        go_wp2
                        go_meet
                        case rel => exact ⟨_, (true), (by first | rfl | (simp; done) | (simp [*]; done)), H', ⟨by have := HK1.out; have := HJ2.out; first | omega | exact Nat.le_refl _⟩, ⟨by (with_reducible repeat (first | apply Kd.R_alloc | apply Kd.R_drewN | apply Kd.R_drew)); exact HO_4.out⟩, ⟨by repeat (first | (with_reducible first | exact HB.out | apply below_alloc | apply pw_below_drewN | apply below_drew1) | exact HB.out)⟩⟩
                      · rw [if_neg c18] at H
                        have c18b0 : ((dcut1_.size : Int) == 0) = false := beq_eq_false_iff_ne.mpr c18
                        have c18b1 : ((dcut1_.size : Int) != 0) = true := bne_iff_ne.mpr c18
                        (first | rw [c18b0] | (simp only [i64_w, i32_w]; rw [c18b0]) | skip)
                        by_cases c19 : (dcut1_.size : Int) > 10
                        · rw [if_pos c19] at H
                          have c19b0 : decide (10 < (dcut1_.size : Int)) = true := decide_eq_true c19
                          have c19b1 : decide (10 < dcut1_.size) = true := decide_eq_true (by omega)
                          clear c19
                          have H' := Aside0.mk H
                          clear H
                          go_wp2
                          go_meet
                          case rel => exact ⟨_, (true), (by first | rfl | (simp; done) | (simp [*]; done)), H', ⟨by have := HK1.out; have := HJ2.out; first | omega | exact Nat.le_refl _⟩, ⟨by (with_reducible repeat (first | apply Kd.R_alloc | apply Kd.R_drewN | apply Kd.R_drew)); exact HO_4.out⟩, ⟨by repeat (first | (with_reducible first | exact HB.out | apply below_alloc | apply pw_below_drewN | apply below_drew1) | exact HB.out)⟩⟩
                        · rw [if_neg c19] at H
                          have c19b0 : decide (10 < (dcut1_.size : Int)) = false := decide_eq_false c19
                          have c19b1 : decide (10 < dcut1_.size) = false := decide_eq_false (by omega)
                          clear c19
                          by_cases c20 : (dcut1_.size : Int) > 1
                          · rw [if_pos c20] at H
                            have c20b0 : decide (1 < (dcut1_.size : Int)) = true := decide_eq_true c20
                            have c20b1 : decide (1 < dcut1_.size) = true := decide_eq_true (by omega)
                            clear c20
                            by_cases c21 : 0 < (dcut1_.size : Int)
                            · rw [if_pos c21] at H
                              have c21b0 : decide (0 < (dcut1_.size : Int)) = true := decide_eq_true c21
                              have c21b1 : decide (0 < dcut1_.size) = true := decide_eq_true (by omega)
                              clear c21
                              by_cases c23 : (bt dcut1_ 0) = 48
                              · rw [if_pos c23] at H
                                have c23b0 : ((bt dcut1_ 0) == 48) = true := beq_iff_eq.mpr c23
                                have c23b1 : ((bt dcut1_ 0) != 48) = false := bne_eq_false_iff_eq.mpr c23
                                clear c23
                                have H' := Aside0.mk H
                                clear H
                                have p22 : 0 ≤ (0 : Int) := (by omega)
                                have q22 : 0 < dcut1_.size := (by have : (0 : Int) < (dcut1_.size : Int) := of_decide_eq_true (by first | (with_reducible assumption) | assumption); omega)
                                have hx22 : ∀ h : 0 < dcut1_.size, ((dcut1_[0]'h).toNat : Int) = bt dcut1_ 0 := bt_at dcut1_ 0
                                clear p22
                                have qi22 : (0 < (dcut1_.size : Int)) = True := eq_true (of_decide_eq_true (by first | (with_reducible assumption) | assumption))
                                replace q22 := eq_true q22
                                go_wp2
                                go_meet
                                case rel => exact ⟨_, (true), (by first | rfl | (simp; done) | (simp [*]; done)), H', ⟨by have := HK1.out; have := HJ2.out; first | omega | exact Nat.le_refl _⟩, ⟨by (with_reducible repeat (first | apply Kd.R_alloc | apply Kd.R_drewN | apply Kd.R_drew)); exact HO_4.out⟩, ⟨by repeat (first | (with_reducible first | exact HB.out | apply below_alloc | apply pw_below_drewN | apply below_drew1) | exact HB.out)⟩⟩
                              · rw [if_neg c23] at H
                                have c23b0 : ((bt dcut1_ 0) == 48) = false := beq_eq_false_iff_ne.mpr c23
                                have c23b1 : ((bt dcut1_ 0) != 48) = true := bne_iff_ne.mpr c23
                                have H' := Aside0.mk H
                                clear H
                                have p22 : 0 ≤ (0 : Int) := (by omega)
                                have q22 : 0 < dcut1_.size := (by have : (0 : Int) < (dcut1_.size : Int) := of_decide_eq_true (by first | (with_reducible assumption) | assumption); omega)
                                have hx22 : ∀ h : 0 < dcut1_.size, ((dcut1_[0]'h).toNat : Int) = bt dcut1_ 0 := bt_at dcut1_ 0
                                clear p22
                                have qi22 : (0 < (dcut1_.size : Int)) = True := eq_true (of_decide_eq_true (by first | (with_reducible assumption) | assumption))
                                replace q22 := eq_true q22
                                obtain ⟨Ao24, co24, eo24⟩ := Kd.R_slice HO_4.out
                                subst eo24
                                go_wp2
                                go_meet
                                case rel => exact ⟨_, (((x4_1.length : Int) == 12)), (by first | rfl | (simp; done) | (simp [*]; done)), H', ⟨by have := HK1.out; have := HJ2.out; first | omega | exact Nat.le_refl _⟩, ⟨by (with_reducible repeat (first | apply Kd.R_alloc | apply Kd.R_drewN | apply Kd.R_drew)); exact HO_4.out⟩, ⟨by repeat (first | (with_reducible first | exact HB.out | apply below_alloc | apply pw_below_drewN | apply below_drew1) | exact HB.out)⟩⟩
                            · rw [if_neg c21] at H
                              exact absurd H (by simp)
                          · rw [if_neg c20] at H
                            have c20b0 : decide (1 < (dcut1_.size : Int)) = false := decide_eq_false c20
                            have c20b1 : decide (1 < dcut1_.size) = false := decide_eq_false (by omega)
                            clear c20
                            have H' := Aside0.mk H
                            clear H
                            obtain ⟨Ao25, co25, eo25⟩ := Kd.R_slice HO_4.out
                            subst eo25
                            go_wp2
                            go_meet
                            case rel => exact ⟨_, (((x4_1.length : Int) == 12)), (by first | rfl | (simp; done) | (simp [*]; done)), H', ⟨by have := HK1.out; have := HJ2.out; first | omega | exact Nat.le_refl _⟩, ⟨by (with_reducible repeat (first | apply Kd.R_alloc | apply Kd.R_drewN | apply Kd.R_drew)); exact HO_4.out⟩, ⟨by repeat (first | (with_reducible first | exact HB.out | apply below_alloc | apply pw_below_drewN | apply below_drew1) | exact HB.out)⟩⟩
                    case rest =>
                      clear HC17
                      try clear c1
                      try clear p1
                      try clear q1
                      try clear hx1
                      try clear c2
                      try clear c2b0
                      try clear p2
                      try clear q2
                      try clear hx2
                      try clear qi2
                      try clear c4
                      try clear c4b0
                      try clear c5
                      try clear c5b0
                      try clear p6
                      try clear q6
                      try clear hx6
                      try clear c7
                      try clear c8
                      try clear c8b0
                      try clear c9
                      try clear c9b0
                      try clear p10
                      try clear q10
                      try clear hx10
                      try clear c11
                      try clear c11b0
                      try clear p12
                      try clear q12
                      try clear hx12
                      try clear c13
                      try clear c13b0
                      try clear c14
                      try clear c14b0
                      try clear c14b1
                      try clear c15
                      try clear c15b0
                      try clear c15b1
                      try clear c16
                      try clear c16b0
                      try clear c16b1
                      try clear c18
                      try clear c18b0
                      try clear c18b1
                      try clear c19
                      try clear c19b0
                      try clear c19b1
                      try clear c20
                      try clear c20b0
                      try clear c20b1
                      try clear c21
                      try clear c21b0
                      try clear c21b1
                      try clear p22
                      try clear q22
                      try clear hx22
                      try clear qi22
                      try clear c23
                      try clear c23b0
                      try clear c23b1
                      try clear p10
                      try clear p12
                      try clear p2
                      try clear p22
                      try clear p6
                      try clear q10
                      try clear q12
                      try clear q22
                      try clear q6
                      obtain ⟨kq, x62_16, rfl, HA, HJ16, HO_4, HB⟩ := hcut
                      cases kq with
                      | zero => exact absurd HA.out (by simp [certpathref01_arcs.j2])
                      | succ kj16 =>
                        have H := HA.out
                        clear HA
                        simp only [certpathref01_arcs.j2] at H
                        by_cases c26 : x62_16 = true
                        · subst c26
                          have H1 : (some (([] : List Int), false)) = some (r1, r2) := by rw [if_pos rfl] at H; exact H
                          clear H
                          have H := H1
                          clear H1
                          simp only [Option.some.injEq, Prod.mk.injEq] at H
                          obtain ⟨rfl, rfl⟩ := H
                          go_wp2
                          go_ret2
                          exact ⟨_, by first | rfl | (simp [errW_none, errW_some] <;> rfl) | (simp [*, errW_none, errW_some] <;> rfl), by first | exact Kd.R_nil _ _ _ _ _ | exact Kd.N_nil _ _ _ _ _ | exact Kd.V_nil _ _ _ _ _ | exact Kd.Q_nil _ _ _ _ _ | exact Kd.S_nil _ _ _ _ _, by repeat (first | (with_reducible first | exact HB.out | apply below_alloc | apply pw_below_drewN | apply below_drew1) | exact HB.out)⟩
                        · replace c26 := Bool.eq_false_iff.mpr c26
                          subst c26
                          have H1 : (certpathref01_arcs.l1 kj16 a0 x4_1 x6_1 dcut1_ 0 0) = some (r1, r2) := by rw [if_neg (show ¬ (false = true) by decide)] at H; exact H
                          clear H
                          have H := H1
                          clear H1
                          have H' := Aside0.mk H
                          clear H
                          go_wp2
                          go_loopg [8, 9] kj16 (fun kq v8 v9 w' => ∃ (x8_4 : Int) (x9_4 : Int), v8 = .int .i64 x8_4 ∧ v9 = .int .i64 x9_4 ∧ Aside0 (certpathref01_arcs.l1 kq a0 x4_1 x6_1 dcut1_ x8_4 x9_4 = some (r1, r2)) ∧ Aside0 (kq ≤ kj16) ∧ Aside0 (Kd.R (Kd.int .i64) 3 w' w.heap.size (fun _ => True) u4 x4_1) ∧ Aside0 (Below w.heap.size w w'))
                          case atStart => exact ⟨(0), (0), (by first | rfl | (simp; done) | (simp [*]; done)), (by first | rfl | (simp; done) | (simp [*]; done)), H', ⟨Nat.le_refl _⟩, ⟨by (with_reducible repeat (first | apply Kd.R_alloc | apply Kd.R_drewN | apply Kd.R_drew)); exact HO_4.out⟩, ⟨by repeat (first | (with_reducible first | exact HB.out | apply below_alloc | apply pw_below_drewN | apply below_drew1) | exact HB.out)⟩⟩
                          case round =>
                            clear H'
                            try clear c1
                            try clear p1
                            try clear q1
                            try clear hx1
                            try clear c2
                            try clear c2b0
                            try clear p2
                            try clear q2
                            try clear hx2
                            try clear qi2
                            try clear c4
                            try clear c4b0
                            try clear c5
                            try clear c5b0
                            try clear p6
                            try clear q6
                            try clear hx6
                            try clear c7
                            try clear c8
                            try clear c8b0
                            try clear c9
                            try clear c9b0
                            try clear p10
                            try clear q10
                            try clear hx10
                            try clear c11
                            try clear c11b0
                            try clear p12
                            try clear q12
                            try clear hx12
                            try clear c13
                            try clear c13b0
                            try clear c14
                            try clear c14b0
                            try clear c14b1
                            try clear c15
                            try clear c15b0
                            try clear c15b1
                            try clear c16
                            try clear c16b0
                            try clear c16b1
                            try clear c18
                            try clear c18b0
                            try clear c18b1
                            try clear c19
                            try clear c19b0
                            try clear c19b1
                            try clear c20
                            try clear c20b0
                            try clear c20b1
                            try clear c21
                            try clear c21b0
                            try clear c21b1
                            try clear p22
                            try clear q22
                            try clear hx22
                            try clear qi22
                            try clear c23
                            try clear c23b0
                            try clear c23b1
                            try clear c26
                            try clear p1
                            try clear p10
                            try clear p12
                            try clear p2
                            try clear p22
                            try clear p6
                            try clear q1
                            try clear q10
                            try clear q12
                            try clear q2
                            try clear q22
                            try clear q6
                            obtain ⟨x8_4, x9_4, rfl, rfl, HA, HK4, HO_4, HB⟩ := hrel
                            cases gk with
                            | zero => exact absurd HA.out (by simp [certpathref01_arcs.l1])
                            | succ k4 =>
                              have H := HA.out
                              clear HA
                              simp only [certpathref01_arcs.l1] at H
                              by_cases c27 : x9_4 < (dcut1_.size : Int)
                              · rw [if_pos c27] at H
                                have c27b0 : decide (x9_4 < (dcut1_.size : Int)) = true := decide_eq_true c27
                                clear c27
                                by_cases c28 : 0 ≤ x9_4
                                · rw [if_pos c28] at H
                                  have c28b0 : decide (0 ≤ x9_4) = true := decide_eq_true c28
                                  clear c28
                                  have H' := Aside0.mk H
                                  clear H
                                  have p29 : 0 ≤ (x9_4 : Int) := of_decide_eq_true (by first | (with_reducible assumption) | assumption)
                                  have q29 : x9_4 < (dcut1_.size : Int) := of_decide_eq_true (by first | (with_reducible assumption) | assumption)
                                  have hx29 := bt_at dcut1_ x9_4
                                  replace p29 := eq_true p29
                                  replace q29 := eq_true q29
                                  go_wp2
                                  go_roundg k4
                                  case measure => have := HK1.out; have := HJ2.out; have := HJ16.out; have := HK4.out; omega
                                  case rel => exact ⟨(wrap64 ((wrap64 (10 * x8_4)) + (((bt dcut1_ x9_4) - 48) % 256))), (wrap64 (x9_4 + 1)), (by first | rfl | (simp; done) | (simp [*]; done)), (by first | rfl | (simp; done) | (simp [*]; done)), H', ⟨by have := HK1.out; have := HJ2.out; have := HJ16.out; have := HK4.out; omega⟩, ⟨by (with_reducible repeat (first | apply Kd.R_alloc | apply Kd.R_drewN | apply Kd.R_drew)); exact HO_4.out⟩, ⟨by repeat (first | (with_reducible first | exact HB.out | apply below_alloc | apply pw_below_drewN | apply below_drew1) | exact HB.out)⟩⟩
                                · rw [if_neg c28] at H
                                  exact absurd H (by simp)
                              · rw [if_neg c27] at H
                                have c27b0 : decide (x9_4 < (dcut1_.size : Int)) = false := decide_eq_false c27
                                clear c27
                                by_cases c30 : x8_4 > 2147483647
                                · rw [if_pos c30] at H
                                  have c30b0 : decide (2147483647 < x8_4) = true := decide_eq_true c30
                                  clear c30
                                  simp only [Option.some.injEq, Prod.mk.injEq] at H
                                  obtain ⟨rfl, rfl⟩ := H
                                  go_wp2
                                  go_ret2
                                  exact ⟨_, by first | rfl | (simp [errW_none, errW_some] <;> rfl) | (simp [*, errW_none, errW_some] <;> rfl), by first | exact Kd.R_nil _ _ _ _ _ | exact Kd.N_nil _ _ _ _ _ | exact Kd.V_nil _ _ _ _ _ | exact Kd.Q_nil _ _ _ _ _ | exact Kd.S_nil _ _ _ _ _, by repeat (first | (with_reducible first | exact HB.out | apply below_alloc | apply pw_below_drewN | apply below_drew1) | exact HB.out)⟩
                                · rw [if_neg c30] at H
                                  have c30b0 : decide (2147483647 < x8_4) = false := decide_eq_false c30
                                  clear c30
                                  by_cases c31 : x4_1.length < 17592186044416
                                  · rw [if_pos c31] at H
                                    have LMc31 := Aside0.mk c31
                                    clear c31
                                    obtain ⟨y167, hy167⟩ : ∃ y_ : List Int, y_ = (x4_1 ++ [x8_4]) := ⟨_, rfl⟩
                                    replace H : (certpathref01_arcs.l0 k4 a0 y167 (wrap64 (x6_1 + 1)) (wrap64 (x6_1 + 1))) = some (r1, r2) := by first | (rw [hy167]; with_reducible exact H) | (have H2_ := (Option.bind_some _ _).symm.trans H; rw [hy167]; with_reducible exact H2_) | (have H2_ := (Option.bind_some _ _).symm.trans H; with_reducible exact H2_) | with_reducible exact H | (rw [hy167]; exact H) | exact H
                                    have Ny167 := Aside0.mk hy167
                                    clear hy167
                                    have H' := Aside0.mk H
                                    clear H
                                    go_wp2_with (first | ((with_reducible refine gate_builtin (b := .append) (xs := #[.tmp 79, .tmp 81]) rfl ?_); (try (refine gate_guard (by rfl) ?_; dsimp only)); at_builtin; refine Kd.R_append (Kd.int .i64) (w0 := w) w.heap.size rfl (.tmp 79) (.tmp 81) 39 3 (.int .i64 0) 8 rfl Tryd.underlying39 info3 rfl (by decide) (by omega) u4 x4_1 x8_4 [.int .i64 x8_4] (fun _ => True) (fun _ => False) rfl rfl ?aP (fun _ hk => hk.elim) ?aF ?aO ?aB ?aS ?aL ?_; (case aP => exact rfl); (case aB => exact (by repeat (first | (with_reducible first | exact HB.out | apply below_alloc | apply pw_below_drewN | apply below_drew1) | exact HB.out))); (case aF => exact (fun _ _ => trivial)); (case aO => exact (by (with_reducible repeat (first | apply Kd.R_alloc | apply Kd.R_drewN | apply Kd.R_drew)); exact HO_4.out)); (case aS => exact (below_size (by repeat (first | (with_reducible first | exact HB.out | apply below_alloc | apply pw_below_drewN | apply below_drew1) | exact HB.out)))); (case aL => have := LMc31.out; omega); intro v168 w32 ho hb hg hat; rw [← Ny167.out] at ho; have n0_ := Aside0.mk (hb); have n1_ := Aside0.mk (ho); clear HB; clear HO_4; have HB := n0_; have HO169 := n1_; clear n0_ n1_; clear ho hb hg hat))
                                    go_roundg k4
                                    case measure => have := HK1.out; have := HJ2.out; have := HJ16.out; have := HK4.out; omega
                                    case rel => exact ⟨(y167), (wrap64 (x6_1 + 1)), (wrap64 (x6_1 + 1)), (by first | rfl | (simp; done) | (simp [*]; done)), (by first | rfl | (simp; done) | (simp [*]; done)), H', ⟨by have := HK1.out; have := HJ2.out; have := HJ16.out; have := HK4.out; omega⟩, ⟨by (with_reducible repeat (first | apply Kd.R_alloc | apply Kd.R_drewN | apply Kd.R_drew)); exact HO169.out⟩, ⟨by repeat (first | (with_reducible first | exact HB.out | apply below_alloc | apply pw_below_drewN | apply below_drew1) | exact HB.out)⟩⟩
                                  · rw [if_neg c31] at H
                                    exact absurd H (by simp)
                  · rw [if_neg c16] at H
                    exact absurd H (by simp)
                · rw [if_neg c15] at H
                  exact absurd H (by simp)
              · rw [if_neg c14] at H
                exact absurd H (by simp)
      · rw [if_neg c2] at H
        have c2b0 : decide (x6_1 ≤ (a0.size : Int)) = false := decide_eq_false c2
        clear c2
        by_cases c33 : (x4_1.length : Int) < 2
        · rw [if_pos c33] at H
          have c33b0 : decide ((x4_1.length : Int) < 2) = true := decide_eq_true c33
          have c33b1 : decide (x4_1.length < 2) = true := decide_eq_true (by omega)
          clear c33
          simp only [Option.some.injEq, Prod.mk.injEq] at H
          obtain ⟨rfl, rfl⟩ := H
          obtain ⟨Ao34, co34, eo34⟩ := Kd.R_slice HO_4.out
          subst eo34
          go_wp2
          go_ret2
          exact ⟨_, by first | rfl | (simp [errW_none, errW_some] <;> rfl) | (simp [*, errW_none, errW_some] <;> rfl), by first | exact Kd.R_nil _ _ _ _ _ | exact Kd.N_nil _ _ _ _ _ | exact Kd.V_nil _ _ _ _ _ | exact Kd.Q_nil _ _ _ _ _ | exact Kd.S_nil _ _ _ _ _, by repeat (first | (with_reducible first | exact HB.out | apply below_alloc | apply pw_below_drewN | apply below_drew1) | exact HB.out)⟩
        · rw [if_neg c33] at H
          have c33b0 : decide ((x4_1.length : Int) < 2) = false := decide_eq_false c33
          have c33b1 : decide (x4_1.length < 2) = false := decide_eq_false (by omega)
          clear c33
          by_cases c35 : 0 < (x4_1.length : Int)
          · rw [if_pos c35] at H
            have c35b0 : decide (0 < (x4_1.length : Int)) = true := decide_eq_true c35
            have c35b1 : decide (0 < x4_1.length) = true := decide_eq_true (by omega)
            clear c35
            by_cases c36 : (rd x4_1 0) > 2
            · rw [if_pos c36] at H
              have c36b0 : decide (2 < (rd x4_1 0)) = true := decide_eq_true c36
              clear c36
              simp only [Option.some.injEq, Prod.mk.injEq] at H
              obtain ⟨rfl, rfl⟩ := H
              obtain ⟨Ao37, co37, eo37⟩ := Kd.R_slice HO_4.out
              subst eo37
              have p164 : 0 ≤ (0 : Int) := (by omega)
              have q164 : 0 < (x4_1.length : Int) := of_decide_eq_true (by first | (with_reducible assumption) | assumption)
              obtain ⟨ad164, e164, hx164_0⟩ := Kd.at_int (Kd.R_reads' HO_4.out).2.2 0 p164 q164
              cases e164
              have qi164 : (0 < x4_1.length) = True := eq_true (by omega)
              (try rw [show ((0 : Int)).toNat = 0 from rfl] at hx164_0)
              (try rw [Addr.add_zero'] at hx164_0)
              replace p164 := eq_true p164
              replace q164 := eq_true q164
              go_wp2
              go_ret2
              exact ⟨_, by first | rfl | (simp [errW_none, errW_some] <;> rfl) | (simp [*, errW_none, errW_some] <;> rfl), by first | exact Kd.R_nil _ _ _ _ _ | exact Kd.N_nil _ _ _ _ _ | exact Kd.V_nil _ _ _ _ _ | exact Kd.Q_nil _ _ _ _ _ | exact Kd.S_nil _ _ _ _ _, by repeat (first | (with_reducible first | exact HB.out | apply below_alloc | apply pw_below_drewN | apply below_drew1) | exact HB.out)⟩
            · rw [if_neg c36] at H
              have c36b0 : decide (2 < (rd x4_1 0)) = false := decide_eq_false c36
              clear c36
              by_cases c38 : (rd x4_1 0) < 2
              · rw [if_pos c38] at H
                have c38b0 : decide ((rd x4_1 0) < 2) = true := decide_eq_true c38
                clear c38
                by_cases c39 : 1 < (x4_1.length : Int)
                · rw [if_pos c39] at H
                  have c39b0 : decide (1 < (x4_1.length : Int)) = true := decide_eq_true c39
                  have c39b1 : decide (1 < x4_1.length) = true := decide_eq_true (by omega)
                  clear c39
                  by_cases c40 : (rd x4_1 1) > 39
                  · rw [if_pos c40] at H
                    have c40b0 : decide (39 < (rd x4_1 1)) = true := decide_eq_true c40
                    clear c40
                    simp only [Option.some.injEq, Prod.mk.injEq] at H
                    obtain ⟨rfl, rfl⟩ := H
                    obtain ⟨Ao41, co41, eo41⟩ := Kd.R_slice HO_4.out
                    subst eo41
                    have p164 : 0 ≤ (0 : Int) := (by omega)
                    have q164 : 0 < (x4_1.length : Int) := of_decide_eq_true (by first | (with_reducible assumption) | assumption)
                    obtain ⟨ad164, e164, hx164_0⟩ := Kd.at_int (Kd.R_reads' HO_4.out).2.2 0 p164 q164
                    cases e164
                    have qi164 : (0 < x4_1.length) = True := eq_true (by omega)
                    (try rw [show ((0 : Int)).toNat = 0 from rfl] at hx164_0)
                    (try rw [Addr.add_zero'] at hx164_0)
                    replace p164 := eq_true p164
                    replace q164 := eq_true q164
                    have p165 : 0 ≤ (0 : Int) := (by omega)
                    have q165 : 0 < (x4_1.length : Int) := of_decide_eq_true (by first | (with_reducible assumption) | assumption)
                    obtain ⟨ad165, e165, hx165_0⟩ := Kd.at_int (Kd.R_reads' HO_4.out).2.2 0 p165 q165
                    obtain rfl : ad164 = ad165 := (by injection e165)
                    have qi165 : (0 < x4_1.length) = True := eq_true (by omega)
                    (try rw [show ((0 : Int)).toNat = 0 from rfl] at hx165_0)
                    (try rw [Addr.add_zero'] at hx165_0)
                    replace p165 := eq_true p165
                    replace q165 := eq_true q165
                    have p166 : 0 ≤ (1 : Int) := (by omega)
                    have q166 : 1 < (x4_1.length : Int) := of_decide_eq_true (by first | (with_reducible assumption) | assumption)
                    obtain ⟨ad166, e166, hx166_0⟩ := Kd.at_int (Kd.R_reads' HO_4.out).2.2 1 p166 q166
                    obtain rfl : ad164 = ad166 := (by injection e166)
                    (try simp only [show (1 : Int).toNat = 1 from rfl, Nat.reduceMul, Nat.reduceEqDiff, Go.Addr.add, ↓reduceIte] at hx166_0)
                    have qi166 : (1 < x4_1.length) = True := eq_true (by omega)
                    (try rw [show ((1 : Int)).toNat = 1 from rfl] at hx166_0)
                    replace p166 := eq_true p166
                    replace q166 := eq_true q166
                    go_wp2
                    go_ret2
                    exact ⟨_, by first | rfl | (simp [errW_none, errW_some] <;> rfl) | (simp [*, errW_none, errW_some] <;> rfl), by first | exact Kd.R_nil _ _ _ _ _ | exact Kd.N_nil _ _ _ _ _ | exact Kd.V_nil _ _ _ _ _ | exact Kd.Q_nil _ _ _ _ _ | exact Kd.S_nil _ _ _ _ _, by repeat (first | (with_reducible first | exact HB.out | apply below_alloc | apply pw_below_drewN | apply below_drew1) | exact HB.out)⟩
                  · rw [if_neg c40] at H
                    have c40b0 : decide (39 < (rd x4_1 1)) = false := decide_eq_false c40
                    clear c40
                    simp only [Option.some.injEq, Prod.mk.injEq] at H
                    obtain ⟨rfl, rfl⟩ := H
                    obtain ⟨Ao42, co42, eo42⟩ := Kd.R_slice HO_4.out
                    subst eo42
                    have p164 : 0 ≤ (0 : Int) := (by omega)
                    have q164 : 0 < (x4_1.length : Int) := of_decide_eq_true (by first | (with_reducible assumption) | assumption)
                    obtain ⟨ad164, e164, hx164_0⟩ := Kd.at_int (Kd.R_reads' HO_4.out).2.2 0 p164 q164
                    cases e164
                    have qi164 : (0 < x4_1.length) = True := eq_true (by omega)
                    (try rw [show ((0 : Int)).toNat = 0 from rfl] at hx164_0)
                    (try rw [Addr.add_zero'] at hx164_0)
                    replace p164 := eq_true p164
                    replace q164 := eq_true q164
                    have p165 : 0 ≤ (0 : Int) := (by omega)
                    have q165 : 0 < (x4_1.length : Int) := of_decide_eq_true (by first | (with_reducible assumption) | assumption)
                    obtain ⟨ad165, e165, hx165_0⟩ := Kd.at_int (Kd.R_reads' HO_4.out).2.2 0 p165 q165
                    obtain rfl : ad164 = ad165 := (by injection e165)
                    have qi165 : (0 < x4_1.length) = True := eq_true (by omega)
                    (try rw [show ((0 : Int)).toNat = 0 from rfl] at hx165_0)
                    (try rw [Addr.add_zero'] at hx165_0)
                    replace p165 := eq_true p165
                    replace q165 := eq_true q165
                    have p166 : 0 ≤ (1 : Int) := (by omega)
                    have q166 : 1 < (x4_1.length : Int) := of_decide_eq_true (by first | (with_reducible assumption) | assumption)
                    obtain ⟨ad166, e166, hx166_0⟩ := Kd.at_int (Kd.R_reads' HO_4.out).2.2 1 p166 q166
                    obtain rfl : ad164 = ad166 := (by injection e166)
                    (try simp only [show (1 : Int).toNat = 1 from rfl, Nat.reduceMul, Nat.reduceEqDiff, Go.Addr.add, ↓reduceIte] at hx166_0)
                    have qi166 : (1 < x4_1.length) = True := eq_true (by omega)
                    (try rw [show ((1 : Int)).toNat = 1 from rfl] at hx166_0)
                    replace p166 := eq_true p166
                    replace q166 := eq_true q166
                    go_wp2
                    go_ret2
                    exact ⟨_, by first | rfl | (simp [errW_none, errW_some] <;> rfl) | (simp [*, errW_none, errW_some] <;> rfl), by (with_reducible repeat (first | apply Kd.R_alloc | apply Kd.R_drewN | apply Kd.R_drew)); exact HO_4.out, by repeat (first | (with_reducible first | exact HB.out | apply below_alloc | apply pw_below_drewN | apply below_drew1) | exact HB.out)⟩
                · rw [if_neg c39] at H
                  exact absurd H (by simp)
              · rw [if_neg c38] at H
                have c38b0 : decide ((rd x4_1 0) < 2) = false := decide_eq_false c38
                clear c38
                simp only [Option.some.injEq, Prod.mk.injEq] at H
                obtain ⟨rfl, rfl⟩ := H
                obtain ⟨Ao43, co43, eo43⟩ := Kd.R_slice HO_4.out
                subst eo43
                have p164 : 0 ≤ (0 : Int) := (by omega)
                have q164 : 0 < (x4_1.length : Int) := of_decide_eq_true (by first | (with_reducible assumption) | assumption)
                obtain ⟨ad164, e164, hx164_0⟩ := Kd.at_int (Kd.R_reads' HO_4.out).2.2 0 p164 q164
                cases e164
                have qi164 : (0 < x4_1.length) = True := eq_true (by omega)
                (try rw [show ((0 : Int)).toNat = 0 from rfl] at hx164_0)
                (try rw [Addr.add_zero'] at hx164_0)
                replace p164 := eq_true p164
                replace q164 := eq_true q164
                have p165 : 0 ≤ (0 : Int) := (by omega)
                have q165 : 0 < (x4_1.length : Int) := of_decide_eq_true (by first | (with_reducible assumption) | assumption)
                obtain ⟨ad165, e165, hx165_0⟩ := Kd.at_int (Kd.R_reads' HO_4.out).2.2 0 p165 q165
                obtain rfl : ad164 = ad165 := (by injection e165)
                have qi165 : (0 < x4_1.length) = True := eq_true (by omega)
                (try rw [show ((0 : Int)).toNat = 0 from rfl] at hx165_0)
                (try rw [Addr.add_zero'] at hx165_0)
                replace p165 := eq_true p165
                replace q165 := eq_true q165
                go_wp2
                go_ret2
                exact ⟨_, by first | rfl | (simp [errW_none, errW_some] <;> rfl) | (simp [*, errW_none, errW_some] <;> rfl), by (with_reducible repeat (first | apply Kd.R_alloc | apply Kd.R_drewN | apply Kd.R_drew)); exact HO_4.out, by repeat (first | (with_reducible first | exact HB.out | apply below_alloc | apply pw_below_drewN | apply below_drew1) | exact HB.out)⟩
          · rw [if_neg c35] at H
            exact absurd H (by simp)

end Go.Proofs.YtcmmlemajlhjoaaDoor.Q
