-- Written by a program of this session (wip/prn.py) out of the translation, for the seat Ytpiakeejfggocaa. Not trusted: Lean checks it.
import Derived.Test.YtpiakeejfggocaaQx0
namespace Go.Proofs.Ytpiakeejfggocaa.Q
open Go.RowKit Go.Proofs.YtpiakeejfggocaaW.PrintWords Go.Proofs.YtpiakeejfggocaaW.PrintLast Go.Proofs.YtpiakeejfggocaaW.PrintMore
attribute [local go_sem] max2_int min2_int max_two min_two max_three min_three max_four min_four   -- for this text's walks alone
set_option linter.unusedVariables false
set_option linter.unusedSimpArgs false

/-! ### certpathref01_PutInteger: function 13 -/
mutual
def certpathref01_PutInteger.l0 : Nat → Int → List Int → Int → Option (ByteArray)
  | 0, _, _, _ => none
  | k + 1, x3, x4, x5 => if x5 ≥ 0 then (if 0 ≤ (wrap64 (8 * x5)) then (if x4.length < 140737488355328 then (certpathref01_PutInteger.l0 k x3 (x4 ++ [(shr .u64 x3 (wrap64 (8 * x5))) % 256]) (wrap64 (x5 - 1))) else (none)) else (none)) else (certpathref01_PutInteger.l1 k x4)
def certpathref01_PutInteger.l1 : Nat → List Int → Option (ByteArray)
  | 0, _ => none
  | k + 1, x4 => if (x4.length : Int) > 1 then (if 0 < (x4.length : Int) then (if (rd x4 0) = 0 then (if 1 < (x4.length : Int) then (if (rd x4 1) < 128 then (if 1 ≤ (x4.length : Int) then (certpathref01_PutInteger.l1 k (x4.drop (1 : Int).toNat)) else (none)) else (if (rd x4 0) = 255 then (if (rd x4 1) ≥ 128 then (if 1 ≤ (x4.length : Int) then (certpathref01_PutInteger.l1 k (x4.drop (1 : Int).toNat)) else (none)) else (some (strOfNums x4))) else (some (strOfNums x4)))) else (none)) else (if (rd x4 0) = 255 then (if 1 < (x4.length : Int) then (if (rd x4 1) ≥ 128 then (if 1 ≤ (x4.length : Int) then (certpathref01_PutInteger.l1 k (x4.drop (1 : Int).toNat)) else (none)) else (some (strOfNums x4))) else (none)) else (some (strOfNums x4)))) else (none)) else (some (strOfNums x4))
end
def certpathref01_PutInteger.f (k : Nat) (a0 : Int) : Option (ByteArray) := certpathref01_PutInteger.l0 k (IntKind.u64.wrap (a0)) ([] : List Int) 7
theorem certpathref01_PutInteger.mono_l : ∀ k, (∀ y0 y1 y2, LeO (certpathref01_PutInteger.l0 k y0 y1 y2) (certpathref01_PutInteger.l0 (k + 1) y0 y1 y2)) ∧ (∀ y0, LeO (certpathref01_PutInteger.l1 k y0) (certpathref01_PutInteger.l1 (k + 1) y0))
  | 0 => ⟨fun _ _ _ r h => by simp [certpathref01_PutInteger.l0] at h, fun _ r h => by simp [certpathref01_PutInteger.l1] at h⟩
  | k + 1 => by
    obtain ⟨ih0, ih1⟩ := certpathref01_PutInteger.mono_l k
    refine ⟨?_, ?_⟩
    · intro y0 y1 y2
      unfold certpathref01_PutInteger.l0
      repeat' first
      | (with_reducible exact ih0 _ _ _)
      | (with_reducible exact ih1 _)
      | (with_reducible exact LeO.refl _)
      | (with_reducible exact LeO.none _)
      | (with_reducible refine LeO.ite ?_ ?_)
      | (with_reducible refine LeO.bind ?_ (fun _ => ?_))
      | exact ih0 _ _ _
      | exact ih1 _
      | exact LeO.none _
      | refine LeO.ite ?_ ?_
      | refine LeO.bind ?_ (fun _ => ?_)
    · intro y0
      unfold certpathref01_PutInteger.l1
      repeat' first
      | (with_reducible exact ih0 _ _ _)
      | (with_reducible exact ih1 _)
      | (with_reducible exact LeO.refl _)
      | (with_reducible exact LeO.none _)
      | (with_reducible refine LeO.ite ?_ ?_)
      | (with_reducible refine LeO.bind ?_ (fun _ => ?_))
      | exact ih0 _ _ _
      | exact ih1 _
      | exact LeO.none _
      | refine LeO.ite ?_ ?_
      | refine LeO.bind ?_ (fun _ => ?_)
theorem certpathref01_PutInteger.mono : ∀ a0 k, LeO (certpathref01_PutInteger.f k a0) (certpathref01_PutInteger.f (k + 1) a0) := by
  intro a0 k
  obtain ⟨ih0, ih1⟩ := certpathref01_PutInteger.mono_l k
  unfold certpathref01_PutInteger.f
  repeat' first
      | (with_reducible exact ih0 _ _ _)
      | (with_reducible exact ih1 _)
      | (with_reducible exact LeO.refl _)
      | (with_reducible exact LeO.none _)
      | (with_reducible refine LeO.ite ?_ ?_)
      | (with_reducible refine LeO.bind ?_ (fun _ => ?_))
      | exact ih0 _ _ _
      | exact ih1 _
      | exact LeO.none _
      | refine LeO.ite ?_ ?_
      | refine LeO.bind ?_ (fun _ => ?_)
set_option maxHeartbeats 8000000 in
set_option maxRecDepth 100000 in
theorem certpathref01_PutInteger.calls (k : Nat) (a0 : Int) (r : ByteArray) (w : World) (h : certpathref01_PutInteger.f k a0 = some r) :
    Calls Try.prog 13 #[.int .i64 a0] w fun e w' => e = .returned (.string r) ∧ Below w.heap.size w w' := by
  have HB := Aside0.mk (Below.refl w.heap.size w)
  have H : (certpathref01_PutInteger.l0 k (IntKind.u64.wrap (a0)) ([] : List Int) 7) = some r := h
  clear h
  have H' := Aside0.mk H
  clear H
  go_enter Try.func13, Try.ntmps13
  go_wp2
  go_loopg [4, 5] k (fun kq v4 v5 w' => ∃ (x4_1 : List Int) (x5_1 : Int), v5 = .int .i64 x5_1 ∧ Aside0 (certpathref01_PutInteger.l0 kq (IntKind.u64.wrap (a0)) x4_1 x5_1 = some r) ∧ Aside0 (kq ≤ k) ∧ Aside0 (Kd.Q (Kd.int .u8) 5 w' w.heap.size (fun _ => True) v4 x4_1) ∧ Aside0 (Below w.heap.size w w'))
  case atStart => exact ⟨(([] : List Int)), (7), (by first | rfl | (simp; done) | (simp [*]; done)), H', ⟨Nat.le_refl _⟩, ⟨Kd.Q_of_R (by first | exact Kd.R_nil _ _ _ _ _ | exact Kd.N_nil _ _ _ _ _ | exact Kd.V_nil _ _ _ _ _ | exact Kd.Q_nil _ _ _ _ _ | exact Kd.S_nil _ _ _ _ _)⟩, ⟨by repeat (first | (with_reducible first | exact HB.out | apply below_alloc | apply pw_below_drewN | apply below_drew1) | exact HB.out)⟩⟩
  case round =>
    clear H'
    try clear c1
    obtain ⟨x4_1, x5_1, rfl, HA, HK1, HO_4, HB⟩ := hrel
    cases gk with
    | zero => exact absurd HA.out (by simp [certpathref01_PutInteger.l0])
    | succ k1 =>
      have H := HA.out
      clear HA
      simp only [certpathref01_PutInteger.l0] at H
      by_cases c2 : x5_1 ≥ 0
      · rw [if_pos c2] at H
        have c2b0 : decide (0 ≤ x5_1) = true := decide_eq_true c2
        clear c2
        obtain ⟨ji3, hji3⟩ : ∃ j_ : Int, (wrap64 (8 * x5_1)) = j_ := ⟨_, rfl⟩
        replace H : (if 0 ≤ (ji3) then (if x4_1.length < 140737488355328 then (certpathref01_PutInteger.l0 k1 (IntKind.u64.wrap (a0)) (x4_1 ++ [(shr .u64 (IntKind.u64.wrap (a0)) (ji3)) % 256]) (wrap64 (x5_1 - 1))) else (none)) else (none)) = some r := by first | (rw [hji3] at H; exact H) | (simp only [hji3] at H ⊢; exact H)
        have hji3w : (IntKind.i64.wrap (8 * x5_1)) = ji3 := (i64_w _).trans hji3
        by_cases c4 : 0 ≤ (ji3)
        · rw [if_pos c4] at H
          have c4b0 := eq_true c4
          have c4b1 : decide (0 ≤ (ji3)) = true := decide_eq_true c4
          clear c4
          obtain ⟨ji5, hji5⟩ : ∃ j_ : Int, (shr .u64 (IntKind.u64.wrap (a0)) (ji3)) = j_ := ⟨_, rfl⟩
          replace H : (if x4_1.length < 140737488355328 then (certpathref01_PutInteger.l0 k1 (IntKind.u64.wrap (a0)) (x4_1 ++ [(ji5) % 256]) (wrap64 (x5_1 - 1))) else (none)) = some r := by first | (rw [hji5] at H; exact H) | (simp only [hji5] at H ⊢; exact H)
          have hji5_ : ((IntKind.u64.wrap (a0)) / 2 ^ min (ji3).toNat 64) = ji5 := hji5
          have hji5z : (ji3) ≤ 64 → ((IntKind.u64.wrap (a0)) / 2 ^ (ji3).toNat) = ji5 := shr_small hji5
          by_cases c6 : x4_1.length < 140737488355328
          · rw [if_pos c6] at H
            have LMc6 := Aside0.mk c6
            clear c6
            obtain ⟨y128, hy128⟩ : ∃ y_ : List Int, y_ = (x4_1 ++ [(ji5) % 256]) := ⟨_, rfl⟩
            replace H : (certpathref01_PutInteger.l0 k1 (IntKind.u64.wrap (a0)) y128 (wrap64 (x5_1 - 1))) = some r := by first | (rw [hy128]; with_reducible exact H) | (have H2_ := (Option.bind_some _ _).symm.trans H; rw [hy128]; with_reducible exact H2_) | (have H2_ := (Option.bind_some _ _).symm.trans H; with_reducible exact H2_) | with_reducible exact H | (rw [hy128]; exact H) | exact H
            have Ny128 := Aside0.mk hy128
            clear hy128
            have H' := Aside0.mk H
            clear H
            go_wp2_with (first | ((with_reducible refine gate_builtin (b := .append) (xs := #[.tmp 12, .tmp 18]) rfl ?_); at_builtin; refine Kd.Q_append (Kd.int .u8) (w0 := w) w.heap.size rfl (.tmp 12) (.tmp 18) 42 5 (.int .u8 0) 1 rfl Try.underlying42 info5 rfl (by decide) (by omega) u4 x4_1 ((ji5) % 256) [.int .u8 ((ji5) % 256)] (fun _ => True) (fun _ => False) rfl rfl ?aP (fun _ hk => hk.elim) ?aF ?aO ?aB ?aS ?aL ?_; (case aP => exact rfl); (case aB => exact (by repeat (first | (with_reducible first | exact HB.out | apply below_alloc | apply pw_below_drewN | apply below_drew1) | exact HB.out))); (case aF => exact (fun _ _ => trivial)); (case aO => exact (by (with_reducible repeat (first | apply Kd.Q_alloc | apply Kd.Q_drewN | apply Kd.Q_drew)); exact HO_4.out)); (case aS => exact (below_size (by repeat (first | (with_reducible first | exact HB.out | apply below_alloc | apply pw_below_drewN | apply below_drew1) | exact HB.out)))); (case aL => have := LMc6.out; omega); intro v129 w7 ho hb hg hat; rw [← Ny128.out] at ho; have n0_ := Aside0.mk (hb); have n1_ := Aside0.mk (ho); clear HB; clear HO_4; have HB := n0_; have HO130 := n1_; clear n0_ n1_; clear ho hb hg hat))
            go_roundg k1
            case measure => have := HK1.out; omega
            case rel => exact ⟨(y128), (wrap64 (x5_1 - 1)), (by first | rfl | (simp; done) | (simp [*]; done)), H', ⟨by have := HK1.out; omega⟩, ⟨by (with_reducible repeat (first | apply Kd.Q_alloc | apply Kd.Q_drewN | apply Kd.Q_drew)); exact HO130.out⟩, ⟨by repeat (first | (with_reducible first | exact HB.out | apply below_alloc | apply pw_below_drewN | apply below_drew1) | exact HB.out)⟩⟩
          · rw [if_neg c6] at H
            exact absurd H (by simp)
        · rw [if_neg c4] at H
          exact absurd H (by simp)
      · rw [if_neg c2] at H
        have c2b0 : decide (0 ≤ x5_1) = false := decide_eq_false c2
        clear c2
        have H' := Aside0.mk H
        clear H
        go_wp2
        go_loopg [4] k1 (fun kq v4 w' => ∃ (x4_2 : List Int), Aside0 (certpathref01_PutInteger.l1 kq x4_2 = some r) ∧ Aside0 (kq ≤ k1) ∧ Aside0 (Kd.Q (Kd.int .u8) 5 w' w.heap.size (fun _ => True) v4 x4_2) ∧ Aside0 (Below w.heap.size w w'))
        case atStart => exact ⟨(x4_1), H', ⟨Nat.le_refl _⟩, ⟨by (with_reducible repeat (first | apply Kd.Q_alloc | apply Kd.Q_drewN | apply Kd.Q_drew)); exact HO_4.out⟩, ⟨by repeat (first | (with_reducible first | exact HB.out | apply below_alloc | apply pw_below_drewN | apply below_drew1) | exact HB.out)⟩⟩
        case round =>
          clear H'
          try clear c1
          try clear c2
          try clear c2b0
          try clear p2
          try clear c4
          try clear c4b0
          try clear c4b1
          try clear c6
          try clear p6
          obtain ⟨x4_2, HA, HK2, HO_4, HB⟩ := hrel
          cases gk with
          | zero => exact absurd HA.out (by simp [certpathref01_PutInteger.l1])
          | succ k2 =>
            have H := HA.out
            clear HA
            simp only [certpathref01_PutInteger.l1] at H
            by_cases c8 : (x4_2.length : Int) > 1
            · rw [if_pos c8] at H
              have c8b0 : decide (1 < (x4_2.length : Int)) = true := decide_eq_true c8
              have c8b1 : decide (1 < x4_2.length) = true := decide_eq_true (by omega)
              clear c8
              by_cases c9 : 0 < (x4_2.length : Int)
              · rw [if_pos c9] at H
                have c9b0 : decide (0 < (x4_2.length : Int)) = true := decide_eq_true c9
                have c9b1 : decide (0 < x4_2.length) = true := decide_eq_true (by omega)
                clear c9
                by_cases c10 : (rd x4_2 0) = 0
                · rw [if_pos c10] at H
                  have c10b0 : ((rd x4_2 0) == 0) = true := beq_iff_eq.mpr c10
                  have c10b1 : ((rd x4_2 0) != 0) = false := bne_eq_false_iff_eq.mpr c10
                  clear c10
                  by_cases c11 : 1 < (x4_2.length : Int)
                  · rw [if_pos c11] at H
                    have c11b0 : decide (1 < (x4_2.length : Int)) = true := decide_eq_true c11
                    have c11b1 : decide (1 < x4_2.length) = true := decide_eq_true (by omega)
                    clear c11
                    by_cases c12 : (rd x4_2 1) < 128
                    · rw [if_pos c12] at H
                      have c12b0 : decide ((rd x4_2 1) < 128) = true := decide_eq_true c12
                      clear c12
                      by_cases c13 : 1 ≤ (x4_2.length : Int)
                      · rw [if_pos c13] at H
                        have c13b0 := eq_true c13
                        have c13b1 : decide (1 ≤ (x4_2.length : Int)) = true := decide_eq_true c13
                        clear c13
                        obtain ⟨y133, hy133⟩ : ∃ y_ : List Int, y_ = (x4_2.drop (1 : Int).toNat) := ⟨_, rfl⟩
                        replace H : (certpathref01_PutInteger.l1 k2 y133) = some r := by first | (rw [hy133]; with_reducible exact H) | (have H2_ := (Option.bind_some _ _).symm.trans H; rw [hy133]; with_reducible exact H2_) | (have H2_ := (Option.bind_some _ _).symm.trans H; with_reducible exact H2_) | with_reducible exact H | (rw [hy133]; exact H) | exact H
                        have Ny133 := Aside0.mk hy133
                        clear hy133
                        have H' := Aside0.mk H
                        clear H
                        obtain ⟨Ao14, co14, eo14, _⟩ := Kd.Q_slice HO_4.out
                        subst eo14
                        have p131 : 0 ≤ (0 : Int) := (by omega)
                        have q131 : 0 < (x4_2.length : Int) := of_decide_eq_true (by first | (with_reducible assumption) | assumption)
                        obtain ⟨ad131, e131, hx131_0⟩ := Kd.at_int (Kd.Q_reads' HO_4.out).2.2 0 p131 q131
                        cases e131
                        have qi131 : (0 < x4_2.length) = True := eq_true (by omega)
                        (try rw [show ((0 : Int)).toNat = 0 from rfl] at hx131_0)
                        (try rw [Addr.add_zero'] at hx131_0)
                        replace p131 := eq_true p131
                        replace q131 := eq_true q131
                        have p132 : 0 ≤ (1 : Int) := (by omega)
                        have q132 : 1 < (x4_2.length : Int) := of_decide_eq_true (by first | (with_reducible assumption) | assumption)
                        obtain ⟨ad132, e132, hx132_0⟩ := Kd.at_int (Kd.Q_reads' HO_4.out).2.2 1 p132 q132
                        obtain rfl : ad131 = ad132 := (by injection e132)
                        (try simp only [show (1 : Int).toNat = 1 from rfl, Nat.reduceMul, Nat.reduceEqDiff, Go.Addr.add, ↓reduceIte] at hx132_0)
                        have qi132 : (1 < x4_2.length) = True := eq_true (by omega)
                        (try rw [show ((1 : Int)).toNat = 1 from rfl] at hx132_0)
                        replace p132 := eq_true p132
                        replace q132 := eq_true q132
                        have q15 : (1 : Int) ≤ ((x4_2.length : Int) : Int) := of_decide_eq_true (by first | (with_reducible assumption) | assumption)
                        obtain ⟨i015, hi015, _, hsz15, _⟩ := info_parts info5
                        have hcut15 := cut_from (P := Try.prog) 42 5 .i64 Try.underlying42 hi015 1 hsz15 (some ad131) x4_2.length co14 1 (by omega) q15
                        have hr15 := Kd.Q_drop (k := (1 : Int).toNat) HO_4.out (by omega)
                        obtain ⟨A15, hA15⟩ : ∃ A1, A1 = (if co14 = (1 : Int).toNat then (some ad131) else ((some ad131) : Option Addr).map (·.add ((1 : Int).toNat * 1))) := ⟨_, rfl⟩
                        obtain ⟨c15, hc15⟩ : ∃ c1, c1 = co14 - (1 : Int).toNat := ⟨_, rfl⟩
                        have hy15 : y133.length = x4_2.length - (1 : Int).toNat := (by rw [Ny133.out, List.length_drop])
                        rw [← Ny133.out] at hr15
                        rw [← hy15, ← hA15, ← hc15] at hcut15
                        replace hr15 : Kd.Q (Kd.int .u8) 5 wr w.heap.size (fun _ => True) (.slice A15 y133.length c15) y133 := (by rw [hA15, hc15, hy15]; exact hr15)
                        have HE15 : Aside0 ((Value.slice A15 y133.length c15).ownBlock = (.slice (some ad131) x4_2.length co14 : Value).ownBlock) := ⟨by rw [hA15]; split <;> (cases ((some ad131) : Option Addr) <;> rfl)⟩
                        clear hy15 hi015 hsz15 HO_4 hA15 hc15
                        have HO135 := Aside0.mk hr15
                        clear hr15
                        replace q15 := eq_true q15
                        go_wp2
                        go_roundg k2
                        case measure => have := HK1.out; have := HK2.out; omega
                        case rel => exact ⟨(y133), H', ⟨by have := HK1.out; have := HK2.out; omega⟩, ⟨by (with_reducible repeat (first | apply Kd.Q_alloc | apply Kd.Q_drewN | apply Kd.Q_drew)); exact HO135.out⟩, ⟨by repeat (first | (with_reducible first | exact HB.out | apply below_alloc | apply pw_below_drewN | apply below_drew1) | exact HB.out)⟩⟩
                      · rw [if_neg c13] at H
                        exact absurd H (by simp)
                    · rw [if_neg c12] at H
                      have c12b0 : decide ((rd x4_2 1) < 128) = false := decide_eq_false c12
                      clear c12
                      by_cases c16 : (rd x4_2 0) = 255
                      · rw [if_pos c16] at H
                        have c16b0 : ((rd x4_2 0) == 255) = true := beq_iff_eq.mpr c16
                        have c16b1 : ((rd x4_2 0) != 255) = false := bne_eq_false_iff_eq.mpr c16
                        clear c16
                        by_cases c17 : (rd x4_2 1) ≥ 128
                        · rw [if_pos c17] at H
                          have c17b0 : decide (128 ≤ (rd x4_2 1)) = true := decide_eq_true c17
                          clear c17
                          by_cases c18 : 1 ≤ (x4_2.length : Int)
                          · rw [if_pos c18] at H
                            have c18b0 := eq_true c18
                            have c18b1 : decide (1 ≤ (x4_2.length : Int)) = true := decide_eq_true c18
                            clear c18
                            obtain ⟨y138, hy138⟩ : ∃ y_ : List Int, y_ = (x4_2.drop (1 : Int).toNat) := ⟨_, rfl⟩
                            replace H : (certpathref01_PutInteger.l1 k2 y138) = some r := by first | (rw [hy138]; with_reducible exact H) | (have H2_ := (Option.bind_some _ _).symm.trans H; rw [hy138]; with_reducible exact H2_) | (have H2_ := (Option.bind_some _ _).symm.trans H; with_reducible exact H2_) | with_reducible exact H | (rw [hy138]; exact H) | exact H
                            have Ny138 := Aside0.mk hy138
                            clear hy138
                            have H' := Aside0.mk H
                            clear H
                            obtain ⟨Ao19, co19, eo19, _⟩ := Kd.Q_slice HO_4.out
                            subst eo19
                            have p131 : 0 ≤ (0 : Int) := (by omega)
                            have q131 : 0 < (x4_2.length : Int) := of_decide_eq_true (by first | (with_reducible assumption) | assumption)
                            obtain ⟨ad131, e131, hx131_0⟩ := Kd.at_int (Kd.Q_reads' HO_4.out).2.2 0 p131 q131
                            cases e131
                            have qi131 : (0 < x4_2.length) = True := eq_true (by omega)
                            (try rw [show ((0 : Int)).toNat = 0 from rfl] at hx131_0)
                            (try rw [Addr.add_zero'] at hx131_0)
                            replace p131 := eq_true p131
                            replace q131 := eq_true q131
                            have p132 : 0 ≤ (1 : Int) := (by omega)
                            have q132 : 1 < (x4_2.length : Int) := of_decide_eq_true (by first | (with_reducible assumption) | assumption)
                            obtain ⟨ad132, e132, hx132_0⟩ := Kd.at_int (Kd.Q_reads' HO_4.out).2.2 1 p132 q132
                            obtain rfl : ad131 = ad132 := (by injection e132)
                            (try simp only [show (1 : Int).toNat = 1 from rfl, Nat.reduceMul, Nat.reduceEqDiff, Go.Addr.add, ↓reduceIte] at hx132_0)
                            have qi132 : (1 < x4_2.length) = True := eq_true (by omega)
                            (try rw [show ((1 : Int)).toNat = 1 from rfl] at hx132_0)
                            replace p132 := eq_true p132
                            replace q132 := eq_true q132
                            have p136 : 0 ≤ (0 : Int) := (by omega)
                            have q136 : 0 < (x4_2.length : Int) := of_decide_eq_true (by first | (with_reducible assumption) | assumption)
                            obtain ⟨ad136, e136, hx136_0⟩ := Kd.at_int (Kd.Q_reads' HO_4.out).2.2 0 p136 q136
                            obtain rfl : ad131 = ad136 := (by injection e136)
                            have qi136 : (0 < x4_2.length) = True := eq_true (by omega)
                            (try rw [show ((0 : Int)).toNat = 0 from rfl] at hx136_0)
                            (try rw [Addr.add_zero'] at hx136_0)
                            replace p136 := eq_true p136
                            replace q136 := eq_true q136
                            have p137 : 0 ≤ (1 : Int) := (by omega)
                            have q137 : 1 < (x4_2.length : Int) := of_decide_eq_true (by first | (with_reducible assumption) | assumption)
                            obtain ⟨ad137, e137, hx137_0⟩ := Kd.at_int (Kd.Q_reads' HO_4.out).2.2 1 p137 q137
                            obtain rfl : ad131 = ad137 := (by injection e137)
                            (try simp only [show (1 : Int).toNat = 1 from rfl, Nat.reduceMul, Nat.reduceEqDiff, Go.Addr.add, ↓reduceIte] at hx137_0)
                            have qi137 : (1 < x4_2.length) = True := eq_true (by omega)
                            (try rw [show ((1 : Int)).toNat = 1 from rfl] at hx137_0)
                            replace p137 := eq_true p137
                            replace q137 := eq_true q137
                            have q20 : (1 : Int) ≤ ((x4_2.length : Int) : Int) := of_decide_eq_true (by first | (with_reducible assumption) | assumption)
                            obtain ⟨i020, hi020, _, hsz20, _⟩ := info_parts info5
                            have hcut20 := cut_from (P := Try.prog) 42 5 .i64 Try.underlying42 hi020 1 hsz20 (some ad131) x4_2.length co19 1 (by omega) q20
                            have hr20 := Kd.Q_drop (k := (1 : Int).toNat) HO_4.out (by omega)
                            obtain ⟨A20, hA20⟩ : ∃ A1, A1 = (if co19 = (1 : Int).toNat then (some ad131) else ((some ad131) : Option Addr).map (·.add ((1 : Int).toNat * 1))) := ⟨_, rfl⟩
                            obtain ⟨c20, hc20⟩ : ∃ c1, c1 = co19 - (1 : Int).toNat := ⟨_, rfl⟩
                            have hy20 : y138.length = x4_2.length - (1 : Int).toNat := (by rw [Ny138.out, List.length_drop])
                            rw [← Ny138.out] at hr20
                            rw [← hy20, ← hA20, ← hc20] at hcut20
                            replace hr20 : Kd.Q (Kd.int .u8) 5 wr w.heap.size (fun _ => True) (.slice A20 y138.length c20) y138 := (by rw [hA20, hc20, hy20]; exact hr20)
                            have HE20 : Aside0 ((Value.slice A20 y138.length c20).ownBlock = (.slice (some ad131) x4_2.length co19 : Value).ownBlock) := ⟨by rw [hA20]; split <;> (cases ((some ad131) : Option Addr) <;> rfl)⟩
                            clear hy20 hi020 hsz20 HO_4 hA20 hc20
                            have HO140 := Aside0.mk hr20
                            clear hr20
                            replace q20 := eq_true q20
                            go_wp2
                            go_roundg k2
                            case measure => have := HK1.out; have := HK2.out; omega
                            case rel => exact ⟨(y138), H', ⟨by have := HK1.out; have := HK2.out; omega⟩, ⟨by (with_reducible repeat (first | apply Kd.Q_alloc | apply Kd.Q_drewN | apply Kd.Q_drew)); exact HO140.out⟩, ⟨by repeat (first | (with_reducible first | exact HB.out | apply below_alloc | apply pw_below_drewN | apply below_drew1) | exact HB.out)⟩⟩
                          · rw [if_neg c18] at H
                            exact absurd H (by simp)
                        · rw [if_neg c17] at H
                          have c17b0 : decide (128 ≤ (rd x4_2 1)) = false := decide_eq_false c17
                          clear c17
                          obtain rfl := Option.some.inj H
                          obtain ⟨Ao21, co21, eo21, _⟩ := Kd.Q_slice HO_4.out
                          subst eo21
                          have p131 : 0 ≤ (0 : Int) := (by omega)
                          have q131 : 0 < (x4_2.length : Int) := of_decide_eq_true (by first | (with_reducible assumption) | assumption)
                          obtain ⟨ad131, e131, hx131_0⟩ := Kd.at_int (Kd.Q_reads' HO_4.out).2.2 0 p131 q131
                          cases e131
                          have qi131 : (0 < x4_2.length) = True := eq_true (by omega)
                          (try rw [show ((0 : Int)).toNat = 0 from rfl] at hx131_0)
                          (try rw [Addr.add_zero'] at hx131_0)
                          replace p131 := eq_true p131
                          replace q131 := eq_true q131
                          have p132 : 0 ≤ (1 : Int) := (by omega)
                          have q132 : 1 < (x4_2.length : Int) := of_decide_eq_true (by first | (with_reducible assumption) | assumption)
                          obtain ⟨ad132, e132, hx132_0⟩ := Kd.at_int (Kd.Q_reads' HO_4.out).2.2 1 p132 q132
                          obtain rfl : ad131 = ad132 := (by injection e132)
                          (try simp only [show (1 : Int).toNat = 1 from rfl, Nat.reduceMul, Nat.reduceEqDiff, Go.Addr.add, ↓reduceIte] at hx132_0)
                          have qi132 : (1 < x4_2.length) = True := eq_true (by omega)
                          (try rw [show ((1 : Int)).toNat = 1 from rfl] at hx132_0)
                          replace p132 := eq_true p132
                          replace q132 := eq_true q132
                          have p136 : 0 ≤ (0 : Int) := (by omega)
                          have q136 : 0 < (x4_2.length : Int) := of_decide_eq_true (by first | (with_reducible assumption) | assumption)
                          obtain ⟨ad136, e136, hx136_0⟩ := Kd.at_int (Kd.Q_reads' HO_4.out).2.2 0 p136 q136
                          obtain rfl : ad131 = ad136 := (by injection e136)
                          have qi136 : (0 < x4_2.length) = True := eq_true (by omega)
                          (try rw [show ((0 : Int)).toNat = 0 from rfl] at hx136_0)
                          (try rw [Addr.add_zero'] at hx136_0)
                          replace p136 := eq_true p136
                          replace q136 := eq_true q136
                          have p137 : 0 ≤ (1 : Int) := (by omega)
                          have q137 : 1 < (x4_2.length : Int) := of_decide_eq_true (by first | (with_reducible assumption) | assumption)
                          obtain ⟨ad137, e137, hx137_0⟩ := Kd.at_int (Kd.Q_reads' HO_4.out).2.2 1 p137 q137
                          obtain rfl : ad131 = ad137 := (by injection e137)
                          (try simp only [show (1 : Int).toNat = 1 from rfl, Nat.reduceMul, Nat.reduceEqDiff, Go.Addr.add, ↓reduceIte] at hx137_0)
                          have qi137 : (1 < x4_2.length) = True := eq_true (by omega)
                          (try rw [show ((1 : Int)).toNat = 1 from rfl] at hx137_0)
                          replace p137 := eq_true p137
                          replace q137 := eq_true q137
                          have hcv22 := Ext.q_string (P := Try.prog) Try.underlying42 Try.underlying5 Try.underlying9 HO_4.out
                          go_wp2
                          go_ret
                          exact ⟨by first | rfl | (simp [errW_none, errW_some] <;> rfl) | (simp [*, errW_none, errW_some] <;> rfl), by repeat (first | (with_reducible first | exact HB.out | apply below_alloc | apply pw_below_drewN | apply below_drew1) | exact HB.out)⟩
                      · rw [if_neg c16] at H
                        have c16b0 : ((rd x4_2 0) == 255) = false := beq_eq_false_iff_ne.mpr c16
                        have c16b1 : ((rd x4_2 0) != 255) = true := bne_iff_ne.mpr c16
                        obtain rfl := Option.some.inj H
                        obtain ⟨Ao23, co23, eo23, _⟩ := Kd.Q_slice HO_4.out
                        subst eo23
                        have p131 : 0 ≤ (0 : Int) := (by omega)
                        have q131 : 0 < (x4_2.length : Int) := of_decide_eq_true (by first | (with_reducible assumption) | assumption)
                        obtain ⟨ad131, e131, hx131_0⟩ := Kd.at_int (Kd.Q_reads' HO_4.out).2.2 0 p131 q131
                        cases e131
                        have qi131 : (0 < x4_2.length) = True := eq_true (by omega)
                        (try rw [show ((0 : Int)).toNat = 0 from rfl] at hx131_0)
                        (try rw [Addr.add_zero'] at hx131_0)
                        replace p131 := eq_true p131
                        replace q131 := eq_true q131
                        have p132 : 0 ≤ (1 : Int) := (by omega)
                        have q132 : 1 < (x4_2.length : Int) := of_decide_eq_true (by first | (with_reducible assumption) | assumption)
                        obtain ⟨ad132, e132, hx132_0⟩ := Kd.at_int (Kd.Q_reads' HO_4.out).2.2 1 p132 q132
                        obtain rfl : ad131 = ad132 := (by injection e132)
                        (try simp only [show (1 : Int).toNat = 1 from rfl, Nat.reduceMul, Nat.reduceEqDiff, Go.Addr.add, ↓reduceIte] at hx132_0)
                        have qi132 : (1 < x4_2.length) = True := eq_true (by omega)
                        (try rw [show ((1 : Int)).toNat = 1 from rfl] at hx132_0)
                        replace p132 := eq_true p132
                        replace q132 := eq_true q132
                        have p136 : 0 ≤ (0 : Int) := (by omega)
                        have q136 : 0 < (x4_2.length : Int) := of_decide_eq_true (by first | (with_reducible assumption) | assumption)
                        obtain ⟨ad136, e136, hx136_0⟩ := Kd.at_int (Kd.Q_reads' HO_4.out).2.2 0 p136 q136
                        obtain rfl : ad131 = ad136 := (by injection e136)
                        have qi136 : (0 < x4_2.length) = True := eq_true (by omega)
                        (try rw [show ((0 : Int)).toNat = 0 from rfl] at hx136_0)
                        (try rw [Addr.add_zero'] at hx136_0)
                        replace p136 := eq_true p136
                        replace q136 := eq_true q136
                        have hcv24 := Ext.q_string (P := Try.prog) Try.underlying42 Try.underlying5 Try.underlying9 HO_4.out
                        go_wp2
                        go_ret
                        exact ⟨by first | rfl | (simp [errW_none, errW_some] <;> rfl) | (simp [*, errW_none, errW_some] <;> rfl), by repeat (first | (with_reducible first | exact HB.out | apply below_alloc | apply pw_below_drewN | apply below_drew1) | exact HB.out)⟩
                  · rw [if_neg c11] at H
                    exact absurd H (by simp)
                · rw [if_neg c10] at H
                  have c10b0 : ((rd x4_2 0) == 0) = false := beq_eq_false_iff_ne.mpr c10
                  have c10b1 : ((rd x4_2 0) != 0) = true := bne_iff_ne.mpr c10
                  by_cases c25 : (rd x4_2 0) = 255
                  · rw [if_pos c25] at H
                    have c25b0 : ((rd x4_2 0) == 255) = true := beq_iff_eq.mpr c25
                    have c25b1 : ((rd x4_2 0) != 255) = false := bne_eq_false_iff_eq.mpr c25
                    clear c25
                    by_cases c26 : 1 < (x4_2.length : Int)
                    · rw [if_pos c26] at H
                      have c26b0 : decide (1 < (x4_2.length : Int)) = true := decide_eq_true c26
                      have c26b1 : decide (1 < x4_2.length) = true := decide_eq_true (by omega)
                      clear c26
                      by_cases c27 : (rd x4_2 1) ≥ 128
                      · rw [if_pos c27] at H
                        have c27b0 : decide (128 ≤ (rd x4_2 1)) = true := decide_eq_true c27
                        clear c27
                        by_cases c28 : 1 ≤ (x4_2.length : Int)
                        · rw [if_pos c28] at H
                          have c28b0 := eq_true c28
                          have c28b1 : decide (1 ≤ (x4_2.length : Int)) = true := decide_eq_true c28
                          clear c28
                          obtain ⟨y143, hy143⟩ : ∃ y_ : List Int, y_ = (x4_2.drop (1 : Int).toNat) := ⟨_, rfl⟩
                          replace H : (certpathref01_PutInteger.l1 k2 y143) = some r := by first | (rw [hy143]; with_reducible exact H) | (have H2_ := (Option.bind_some _ _).symm.trans H; rw [hy143]; with_reducible exact H2_) | (have H2_ := (Option.bind_some _ _).symm.trans H; with_reducible exact H2_) | with_reducible exact H | (rw [hy143]; exact H) | exact H
                          have Ny143 := Aside0.mk hy143
                          clear hy143
                          have H' := Aside0.mk H
                          clear H
                          obtain ⟨Ao29, co29, eo29, _⟩ := Kd.Q_slice HO_4.out
                          subst eo29
                          have p131 : 0 ≤ (0 : Int) := (by omega)
                          have q131 : 0 < (x4_2.length : Int) := of_decide_eq_true (by first | (with_reducible assumption) | assumption)
                          obtain ⟨ad131, e131, hx131_0⟩ := Kd.at_int (Kd.Q_reads' HO_4.out).2.2 0 p131 q131
                          cases e131
                          have qi131 : (0 < x4_2.length) = True := eq_true (by omega)
                          (try rw [show ((0 : Int)).toNat = 0 from rfl] at hx131_0)
                          (try rw [Addr.add_zero'] at hx131_0)
                          replace p131 := eq_true p131
                          replace q131 := eq_true q131
                          have p141 : 0 ≤ (0 : Int) := (by omega)
                          have q141 : 0 < (x4_2.length : Int) := of_decide_eq_true (by first | (with_reducible assumption) | assumption)
                          obtain ⟨ad141, e141, hx141_0⟩ := Kd.at_int (Kd.Q_reads' HO_4.out).2.2 0 p141 q141
                          obtain rfl : ad131 = ad141 := (by injection e141)
                          have qi141 : (0 < x4_2.length) = True := eq_true (by omega)
                          (try rw [show ((0 : Int)).toNat = 0 from rfl] at hx141_0)
                          (try rw [Addr.add_zero'] at hx141_0)
                          replace p141 := eq_true p141
                          replace q141 := eq_true q141
                          have p142 : 0 ≤ (1 : Int) := (by omega)
                          have q142 : 1 < (x4_2.length : Int) := of_decide_eq_true (by first | (with_reducible assumption) | assumption)
                          obtain ⟨ad142, e142, hx142_0⟩ := Kd.at_int (Kd.Q_reads' HO_4.out).2.2 1 p142 q142
                          obtain rfl : ad131 = ad142 := (by injection e142)
                          (try simp only [show (1 : Int).toNat = 1 from rfl, Nat.reduceMul, Nat.reduceEqDiff, Go.Addr.add, ↓reduceIte] at hx142_0)
                          have qi142 : (1 < x4_2.length) = True := eq_true (by omega)
                          (try rw [show ((1 : Int)).toNat = 1 from rfl] at hx142_0)
                          replace p142 := eq_true p142
                          replace q142 := eq_true q142
                          have q30 : (1 : Int) ≤ ((x4_2.length : Int) : Int) := of_decide_eq_true (by first | (with_reducible assumption) | assumption)
                          obtain ⟨i030, hi030, _, hsz30, _⟩ := info_parts info5
                          have hcut30 := cut_from (P := Try.prog) 42 5 .i64 Try.underlying42 hi030 1 hsz30 (some ad131) x4_2.length co29 1 (by omega) q30
                          have hr30 := Kd.Q_drop (k := (1 : Int).toNat) HO_4.out (by omega)
                          obtain ⟨A30, hA30⟩ : ∃ A1, A1 = (if co29 = (1 : Int).toNat then (some ad131) else ((some ad131) : Option Addr).map (·.add ((1 : Int).toNat * 1))) := ⟨_, rfl⟩
                          obtain ⟨c30, hc30⟩ : ∃ c1, c1 = co29 - (1 : Int).toNat := ⟨_, rfl⟩
                          have hy30 : y143.length = x4_2.length - (1 : Int).toNat := (by rw [Ny143.out, List.length_drop])
                          rw [← Ny143.out] at hr30
                          rw [← hy30, ← hA30, ← hc30] at hcut30
                          replace hr30 : Kd.Q (Kd.int .u8) 5 wr w.heap.size (fun _ => True) (.slice A30 y143.length c30) y143 := (by rw [hA30, hc30, hy30]; exact hr30)
                          have HE30 : Aside0 ((Value.slice A30 y143.length c30).ownBlock = (.slice (some ad131) x4_2.length co29 : Value).ownBlock) := ⟨by rw [hA30]; split <;> (cases ((some ad131) : Option Addr) <;> rfl)⟩
                          clear hy30 hi030 hsz30 HO_4 hA30 hc30
                          have HO145 := Aside0.mk hr30
                          clear hr30
                          replace q30 := eq_true q30
                          go_wp2
                          go_roundg k2
                          case measure => have := HK1.out; have := HK2.out; omega
                          case rel => exact ⟨(y143), H', ⟨by have := HK1.out; have := HK2.out; omega⟩, ⟨by (with_reducible repeat (first | apply Kd.Q_alloc | apply Kd.Q_drewN | apply Kd.Q_drew)); exact HO145.out⟩, ⟨by repeat (first | (with_reducible first | exact HB.out | apply below_alloc | apply pw_below_drewN | apply below_drew1) | exact HB.out)⟩⟩
                        · rw [if_neg c28] at H
                          exact absurd H (by simp)
                      · rw [if_neg c27] at H
                        have c27b0 : decide (128 ≤ (rd x4_2 1)) = false := decide_eq_false c27
                        clear c27
                        obtain rfl := Option.some.inj H
                        obtain ⟨Ao31, co31, eo31, _⟩ := Kd.Q_slice HO_4.out
                        subst eo31
                        have p131 : 0 ≤ (0 : Int) := (by omega)
                        have q131 : 0 < (x4_2.length : Int) := of_decide_eq_true (by first | (with_reducible assumption) | assumption)
                        obtain ⟨ad131, e131, hx131_0⟩ := Kd.at_int (Kd.Q_reads' HO_4.out).2.2 0 p131 q131
                        cases e131
                        have qi131 : (0 < x4_2.length) = True := eq_true (by omega)
                        (try rw [show ((0 : Int)).toNat = 0 from rfl] at hx131_0)
                        (try rw [Addr.add_zero'] at hx131_0)
                        replace p131 := eq_true p131
                        replace q131 := eq_true q131
                        have p141 : 0 ≤ (0 : Int) := (by omega)
                        have q141 : 0 < (x4_2.length : Int) := of_decide_eq_true (by first | (with_reducible assumption) | assumption)
                        obtain ⟨ad141, e141, hx141_0⟩ := Kd.at_int (Kd.Q_reads' HO_4.out).2.2 0 p141 q141
                        obtain rfl : ad131 = ad141 := (by injection e141)
                        have qi141 : (0 < x4_2.length) = True := eq_true (by omega)
                        (try rw [show ((0 : Int)).toNat = 0 from rfl] at hx141_0)
                        (try rw [Addr.add_zero'] at hx141_0)
                        replace p141 := eq_true p141
                        replace q141 := eq_true q141
                        have p142 : 0 ≤ (1 : Int) := (by omega)
                        have q142 : 1 < (x4_2.length : Int) := of_decide_eq_true (by first | (with_reducible assumption) | assumption)
                        obtain ⟨ad142, e142, hx142_0⟩ := Kd.at_int (Kd.Q_reads' HO_4.out).2.2 1 p142 q142
                        obtain rfl : ad131 = ad142 := (by injection e142)
                        (try simp only [show (1 : Int).toNat = 1 from rfl, Nat.reduceMul, Nat.reduceEqDiff, Go.Addr.add, ↓reduceIte] at hx142_0)
                        have qi142 : (1 < x4_2.length) = True := eq_true (by omega)
                        (try rw [show ((1 : Int)).toNat = 1 from rfl] at hx142_0)
                        replace p142 := eq_true p142
                        replace q142 := eq_true q142
                        have hcv32 := Ext.q_string (P := Try.prog) Try.underlying42 Try.underlying5 Try.underlying9 HO_4.out
                        go_wp2
                        go_ret
                        exact ⟨by first | rfl | (simp [errW_none, errW_some] <;> rfl) | (simp [*, errW_none, errW_some] <;> rfl), by repeat (first | (with_reducible first | exact HB.out | apply below_alloc | apply pw_below_drewN | apply below_drew1) | exact HB.out)⟩
                    · rw [if_neg c26] at H
                      exact absurd H (by simp)
                  · rw [if_neg c25] at H
                    have c25b0 : ((rd x4_2 0) == 255) = false := beq_eq_false_iff_ne.mpr c25
                    have c25b1 : ((rd x4_2 0) != 255) = true := bne_iff_ne.mpr c25
                    obtain rfl := Option.some.inj H
                    obtain ⟨Ao33, co33, eo33, _⟩ := Kd.Q_slice HO_4.out
                    subst eo33
                    have p131 : 0 ≤ (0 : Int) := (by omega)
                    have q131 : 0 < (x4_2.length : Int) := of_decide_eq_true (by first | (with_reducible assumption) | assumption)
                    obtain ⟨ad131, e131, hx131_0⟩ := Kd.at_int (Kd.Q_reads' HO_4.out).2.2 0 p131 q131
                    cases e131
                    have qi131 : (0 < x4_2.length) = True := eq_true (by omega)
                    (try rw [show ((0 : Int)).toNat = 0 from rfl] at hx131_0)
                    (try rw [Addr.add_zero'] at hx131_0)
                    replace p131 := eq_true p131
                    replace q131 := eq_true q131
                    have p141 : 0 ≤ (0 : Int) := (by omega)
                    have q141 : 0 < (x4_2.length : Int) := of_decide_eq_true (by first | (with_reducible assumption) | assumption)
                    obtain ⟨ad141, e141, hx141_0⟩ := Kd.at_int (Kd.Q_reads' HO_4.out).2.2 0 p141 q141
                    obtain rfl : ad131 = ad141 := (by injection e141)
                    have qi141 : (0 < x4_2.length) = True := eq_true (by omega)
                    (try rw [show ((0 : Int)).toNat = 0 from rfl] at hx141_0)
                    (try rw [Addr.add_zero'] at hx141_0)
                    replace p141 := eq_true p141
                    replace q141 := eq_true q141
                    have hcv34 := Ext.q_string (P := Try.prog) Try.underlying42 Try.underlying5 Try.underlying9 HO_4.out
                    go_wp2
                    go_ret
                    exact ⟨by first | rfl | (simp [errW_none, errW_some] <;> rfl) | (simp [*, errW_none, errW_some] <;> rfl), by repeat (first | (with_reducible first | exact HB.out | apply below_alloc | apply pw_below_drewN | apply below_drew1) | exact HB.out)⟩
              · rw [if_neg c9] at H
                exact absurd H (by simp)
            · rw [if_neg c8] at H
              have c8b0 : decide (1 < (x4_2.length : Int)) = false := decide_eq_false c8
              have c8b1 : decide (1 < x4_2.length) = false := decide_eq_false (by omega)
              clear c8
              obtain rfl := Option.some.inj H
              obtain ⟨Ao35, co35, eo35, _⟩ := Kd.Q_slice HO_4.out
              subst eo35
              have hcv36 := Ext.q_string (P := Try.prog) Try.underlying42 Try.underlying5 Try.underlying9 HO_4.out
              go_wp2
              go_ret
              exact ⟨by first | rfl | (simp [errW_none, errW_some] <;> rfl) | (simp [*, errW_none, errW_some] <;> rfl), by repeat (first | (with_reducible first | exact HB.out | apply below_alloc | apply pw_below_drewN | apply below_drew1) | exact HB.out)⟩

end Go.Proofs.Ytpiakeejfggocaa.Q
