-- Written by a program of this session (wip/prn.py) out of the translation, for the seat YtegmenlonpgnpaaDoor. Not trusted: Lean checks it.
import Derived.Test.YtegmenlonpgnpaaDoorQx0
import Derived.Test.YtegmenlonpgnpaaDoorQx10
import Derived.Test.YtegmenlonpgnpaaDoorQx11
namespace Go.Proofs.YtegmenlonpgnpaaDoor.Q
open Go.RowKit Go.Proofs.YtegmenlonpgnpaaDoorW.PrintWords Go.Proofs.YtegmenlonpgnpaaDoorW.PrintLast Go.Proofs.YtegmenlonpgnpaaDoorW.PrintMore
attribute [local go_sem] max2_int min2_int max_two min_two max_three min_three max_four min_four   -- for this text's walks alone
set_option linter.unusedVariables false
set_option linter.unusedSimpArgs false

/-! ### certpathref07_DNS: function 14 -/
mutual
def certpathref07_DNS.l0 : Nat → List ByteArray → Int → Int → Option (Bool)
  | 0, _, _, _ => none
  | k + 1, x10, x11, x12 => if x12 < x11 then (if 0 ≤ x12 then (if x12 < (x10.length : Int) then (if ((rdOf ByteArray.empty x10 x12).size : Int) < 1 then (certpathref07_DNS.j1 k (rdOf ByteArray.empty x10 x12) x10 x11 x12 true) else (if ((rdOf ByteArray.empty x10 x12).size : Int) > 63 then (certpathref07_DNS.j1 k (rdOf ByteArray.empty x10 x12) x10 x11 x12 true) else (if 0 < ((rdOf ByteArray.empty x10 x12).size : Int) then (if (bt (rdOf ByteArray.empty x10 x12) 0) = 45 then (certpathref07_DNS.j1 k (rdOf ByteArray.empty x10 x12) x10 x11 x12 true) else (if 0 ≤ (wrap64 (((rdOf ByteArray.empty x10 x12).size : Int) - 1)) then (if (wrap64 (((rdOf ByteArray.empty x10 x12).size : Int) - 1)) < ((rdOf ByteArray.empty x10 x12).size : Int) then (certpathref07_DNS.j1 k (rdOf ByteArray.empty x10 x12) x10 x11 x12 ((bt (rdOf ByteArray.empty x10 x12) (wrap64 (((rdOf ByteArray.empty x10 x12).size : Int) - 1))) == 45)) else (none)) else (none))) else (none)))) else (none)) else (none)) else (some true)
def certpathref07_DNS.j1 : Nat → ByteArray → List ByteArray → Int → Int → Bool → Option (Bool)
  | 0, _, _, _, _, _ => none
  | k + 1, x4, x10, x11, x12, x36 => if x36 = true then (some false) else (certpathref07_DNS.l1 k x4 0 x10 x11 x12)
def certpathref07_DNS.l1 : Nat → ByteArray → Int → List ByteArray → Int → Int → Option (Bool)
  | 0, _, _, _, _, _ => none
  | k + 1, x4, x5, x10, x11, x12 => if x5 < (x4.size : Int) then (if 0 ≤ x5 then ((certpathref01_Alnum.f (bt x4 x5)).bind fun t188 => (if t188 = true then (certpathref07_DNS.l1 k x4 (wrap64 (x5 + 1)) x10 x11 x12) else (if (bt x4 x5) = 45 then (certpathref07_DNS.l1 k x4 (wrap64 (x5 + 1)) x10 x11 x12) else (some false)))) else (none)) else (certpathref07_DNS.l0 k x10 x11 (wrap64 (x12 + 1)))
end
def certpathref07_DNS.f (k : Nat) (a0 : ByteArray) : Option (Bool) := if (a0.size : Int) > 128 then (some false) else ((certpathref07_Split.f k a0 46).bind fun t184 => (certpathref07_DNS.l0 k t184 (t184.length : Int) 0))
theorem certpathref07_DNS.mono_l : ∀ k, (∀ y0 y1 y2, LeO (certpathref07_DNS.l0 k y0 y1 y2) (certpathref07_DNS.l0 (k + 1) y0 y1 y2)) ∧ (∀ y0 y1 y2 y3 y4, LeO (certpathref07_DNS.j1 k y0 y1 y2 y3 y4) (certpathref07_DNS.j1 (k + 1) y0 y1 y2 y3 y4)) ∧ (∀ y0 y1 y2 y3 y4, LeO (certpathref07_DNS.l1 k y0 y1 y2 y3 y4) (certpathref07_DNS.l1 (k + 1) y0 y1 y2 y3 y4))
  | 0 => ⟨fun _ _ _ r h => by simp [certpathref07_DNS.l0] at h, fun _ _ _ _ _ r h => by simp [certpathref07_DNS.j1] at h, fun _ _ _ _ _ r h => by simp [certpathref07_DNS.l1] at h⟩
  | k + 1 => by
    obtain ⟨ih0, ih1, ih2⟩ := certpathref07_DNS.mono_l k
    refine ⟨?_, ?_, ?_⟩
    · intro y0 y1 y2
      unfold certpathref07_DNS.l0
      repeat' first
      | (with_reducible exact ih0 _ _ _)
      | (with_reducible exact ih1 _ _ _ _ _)
      | (with_reducible exact ih2 _ _ _ _ _)
      | (with_reducible exact certpathref07_Split.mono _ _ _)
      | (with_reducible exact LeO.refl _)
      | (with_reducible exact LeO.none _)
      | (with_reducible refine LeO.ite ?_ ?_)
      | (with_reducible refine LeO.bind ?_ (fun _ => ?_))
      | exact ih0 _ _ _
      | exact ih1 _ _ _ _ _
      | exact ih2 _ _ _ _ _
      | exact certpathref07_Split.mono _ _ _
      | exact LeO.none _
      | refine LeO.ite ?_ ?_
      | refine LeO.bind ?_ (fun _ => ?_)
    · intro y0 y1 y2 y3 y4
      unfold certpathref07_DNS.j1
      repeat' first
      | (with_reducible exact ih0 _ _ _)
      | (with_reducible exact ih1 _ _ _ _ _)
      | (with_reducible exact ih2 _ _ _ _ _)
      | (with_reducible exact certpathref07_Split.mono _ _ _)
      | (with_reducible exact LeO.refl _)
      | (with_reducible exact LeO.none _)
      | (with_reducible refine LeO.ite ?_ ?_)
      | (with_reducible refine LeO.bind ?_ (fun _ => ?_))
      | exact ih0 _ _ _
      | exact ih1 _ _ _ _ _
      | exact ih2 _ _ _ _ _
      | exact certpathref07_Split.mono _ _ _
      | exact LeO.none _
      | refine LeO.ite ?_ ?_
      | refine LeO.bind ?_ (fun _ => ?_)
    · intro y0 y1 y2 y3 y4
      unfold certpathref07_DNS.l1
      repeat' first
      | (with_reducible exact ih0 _ _ _)
      | (with_reducible exact ih1 _ _ _ _ _)
      | (with_reducible exact ih2 _ _ _ _ _)
      | (with_reducible exact certpathref07_Split.mono _ _ _)
      | (with_reducible exact LeO.refl _)
      | (with_reducible exact LeO.none _)
      | (with_reducible refine LeO.ite ?_ ?_)
      | (with_reducible refine LeO.bind ?_ (fun _ => ?_))
      | exact ih0 _ _ _
      | exact ih1 _ _ _ _ _
      | exact ih2 _ _ _ _ _
      | exact certpathref07_Split.mono _ _ _
      | exact LeO.none _
      | refine LeO.ite ?_ ?_
      | refine LeO.bind ?_ (fun _ => ?_)
theorem certpathref07_DNS.mono : ∀ a0 k, LeO (certpathref07_DNS.f k a0) (certpathref07_DNS.f (k + 1) a0) := by
  intro a0 k
  obtain ⟨ih0, ih1, ih2⟩ := certpathref07_DNS.mono_l k
  unfold certpathref07_DNS.f
  repeat' first
      | (with_reducible exact ih0 _ _ _)
      | (with_reducible exact ih1 _ _ _ _ _)
      | (with_reducible exact ih2 _ _ _ _ _)
      | (with_reducible exact certpathref07_Split.mono _ _ _)
      | (with_reducible exact LeO.refl _)
      | (with_reducible exact LeO.none _)
      | (with_reducible refine LeO.ite ?_ ?_)
      | (with_reducible refine LeO.bind ?_ (fun _ => ?_))
      | exact ih0 _ _ _
      | exact ih1 _ _ _ _ _
      | exact ih2 _ _ _ _ _
      | exact certpathref07_Split.mono _ _ _
      | exact LeO.none _
      | refine LeO.ite ?_ ?_
      | refine LeO.bind ?_ (fun _ => ?_)
set_option maxHeartbeats 8000000 in
set_option maxRecDepth 100000 in
theorem certpathref07_DNS.calls (k : Nat) (a0 : ByteArray) (r : Bool) (w : World) (hG_ : Ext.G w) (h : certpathref07_DNS.f k a0 = some r) :
    Calls Tryd.prog 14 #[.string a0] w fun e w' => e = .returned (.bool r) ∧ Below w.heap.size w w' := by
  have HB := Aside0.mk (Below.refl w.heap.size w)
  have H : (if (a0.size : Int) > 128 then (some false) else ((certpathref07_Split.f k a0 46).bind fun t184 => (certpathref07_DNS.l0 k t184 (t184.length : Int) 0))) = some r := h
  clear h
  by_cases c2 : (a0.size : Int) > 128
  · rw [if_pos c2] at H
    have c2b0 : decide (128 < (a0.size : Int)) = true := decide_eq_true c2
    have c2b1 : decide (128 < a0.size) = true := decide_eq_true (by omega)
    clear c2
    obtain rfl := Option.some.inj H
    go_enter Tryd.func14, Tryd.ntmps14
    go_wp2
    go_ret
    exact ⟨by first | rfl | (simp [errW_none, errW_some] <;> rfl) | (simp [*, errW_none, errW_some] <;> rfl), by repeat (first | (with_reducible first | exact HB.out | apply below_alloc | apply pw_below_drewN | apply below_drew1) | exact HB.out)⟩
  · rw [if_neg c2] at H
    have c2b0 : decide (128 < (a0.size : Int)) = false := decide_eq_false c2
    have c2b1 : decide (128 < a0.size) = false := decide_eq_false (by omega)
    clear c2
    replace H := Option.bind_eq_some_iff.mp H
    obtain ⟨t184, A30, H⟩ := H
    replace H : (certpathref07_DNS.l0 k t184 (t184.length : Int) 0) = some r := H
    have A3 := Aside0.mk A30
    clear A30
    have H' := Aside0.mk H
    clear H
    go_enter Tryd.func14, Tryd.ntmps14
    go_wp2_with (first | ((with_reducible refine gate_callee (f := 41) rfl ?_); refine goesL_ (some 10) rfl rfl Tryd.func41 (by kernel_rfl) rfl #[.string a0, .int .u8 46] rfl (by (try simp only [List.map_toArray, List.map_cons, List.map_nil]); first | done | rfl | (simp only [List.length_drop, List.length_take]; rfl)) ?_; (with_reducible refine (certpathref07_Split.calls k a0 46 t184 _ ?side1 A3.out).mono ?_); (case side1 => refine Ext.G.step ?_ hG_; repeat (first | (with_reducible first | exact HB.out | apply below_alloc | apply pw_below_drewN | apply below_drew1) | exact HB.out)); rintro e w4 ⟨v185, rfl, ho0, hb⟩; refine ⟨_, rfl, ?_⟩; have n0_ := Aside0.mk (Kd.R_lower ho0 (below_size (by repeat (first | (with_reducible first | exact HB.out | apply below_alloc | apply pw_below_drewN | apply below_drew1) | exact HB.out)))); have n1_ := Aside0.mk (below_step (by repeat (first | (with_reducible first | exact HB.out | apply below_alloc | apply pw_below_drewN | apply below_drew1) | exact HB.out)) hb); clear HB; have HO186 := n0_; have HB := n1_; clear n0_ n1_; (try clear hb); (try clear hb2); (try clear hk); (try clear hi); (try clear ho0); obtain ⟨Ao5, co5, eo5⟩ := Kd.R_slice HO186.out; subst eo5))
    go_loopg [12] k (fun kq v12 w' => ∃ (x12_1 : Int), v12 = .int .i64 x12_1 ∧ Aside0 (certpathref07_DNS.l0 kq t184 (t184.length : Int) x12_1 = some r) ∧ Aside0 (kq ≤ k) ∧ Aside0 (Kd.R Kd.string 9 w' w.heap.size (fun _ => True) (.slice Ao5 t184.length co5) t184) ∧ Aside0 (Below w.heap.size w w'))
    case atStart => exact ⟨(0), (by first | rfl | (simp; done) | (simp [*]; done)), H', ⟨Nat.le_refl _⟩, ⟨by (with_reducible repeat (first | apply Kd.R_alloc | apply Kd.R_drewN | apply Kd.R_drew)); exact HO186.out⟩, ⟨by repeat (first | (with_reducible first | exact HB.out | apply below_alloc | apply pw_below_drewN | apply below_drew1) | exact HB.out)⟩⟩
    case round =>
      clear H'
      try clear c1
      try clear c2
      try clear c2b0
      try clear c2b1
      try clear p2
      try clear c4
      obtain ⟨x12_1, rfl, HA, HK1, HO_10, HB⟩ := hrel
      cases gk with
      | zero => exact absurd HA.out (by simp [certpathref07_DNS.l0])
      | succ k1 =>
        have H := HA.out
        clear HA
        simp only [certpathref07_DNS.l0] at H
        by_cases c6 : x12_1 < (t184.length : Int)
        · rw [if_pos c6] at H
          have c6b0 : decide (x12_1 < (t184.length : Int)) = true := decide_eq_true c6
          clear c6
          by_cases c7 : 0 ≤ x12_1
          · rw [if_pos c7] at H
            have c7b0 : decide (0 ≤ x12_1) = true := decide_eq_true c7
            clear c7
            by_cases c8 : x12_1 < (t184.length : Int)
            · rw [if_pos c8] at H
              have c8b0 : decide (x12_1 < (t184.length : Int)) = true := decide_eq_true c8
              clear c8
              have HC9 := Aside0.mk H
              clear H
              have p187 : 0 ≤ (x12_1 : Int) := of_decide_eq_true (by first | (with_reducible assumption) | assumption)
              have q187 : x12_1 < (t184.length : Int) := of_decide_eq_true (by first | (with_reducible assumption) | assumption)
              obtain ⟨ad187, e187, hx187_0⟩ := Kd.at_string (Kd.R_reads' HO_10.out).2.2 x12_1 p187 q187
              cases e187
              replace p187 := eq_true p187
              replace q187 := eq_true q187
              go_upto_region 6 with (fail)
              go_cut [36] (fun v36 wc => ∃ (kq : Nat) (x36_8 : Bool), v36 = .bool x36_8 ∧ Aside0 (certpathref07_DNS.j1 kq (rdOf ByteArray.empty t184 x12_1) t184 (t184.length : Int) x12_1 x36_8 = some r) ∧ Aside0 (kq ≤ k1) ∧ Aside0 (Kd.R Kd.string 9 wc w.heap.size (fun _ => True) (.slice (some ad187) t184.length co5) t184) ∧ Aside0 (Below w.heap.size w wc))
              case first =>
                have H := HC9.out
                clear HC9
                by_cases c10 : ((rdOf ByteArray.empty t184 x12_1).size : Int) < 1
                · rw [if_pos c10] at H
                  have c10b0 : decide (((rdOf ByteArray.empty t184 x12_1).size : Int) < 1) = true := decide_eq_true c10
                  have c10b1 : decide ((rdOf ByteArray.empty t184 x12_1).size < 1) = true := decide_eq_true (by omega)
                  clear c10
                  (first | rw [c10b0] | (simp only [i64_w, i32_w]; rw [c10b0]) | skip)
                  have H' := Aside0.mk H
                  clear H
                  go_wp2
                  go_meet
                  case rel => exact ⟨_, (true), (by first | rfl | (simp; done) | (simp [*]; done)), H', ⟨by have := HK1.out; first | omega | exact Nat.le_refl _⟩, ⟨by (with_reducible repeat (first | apply Kd.R_alloc | apply Kd.R_drewN | apply Kd.R_drew)); exact HO_10.out⟩, ⟨by repeat (first | (with_reducible first | exact HB.out | apply below_alloc | apply pw_below_drewN | apply below_drew1) | exact HB.out)⟩⟩
                · rw [if_neg c10] at H
                  have c10b0 : decide (((rdOf ByteArray.empty t184 x12_1).size : Int) < 1) = false := decide_eq_false c10
                  have c10b1 : decide ((rdOf ByteArray.empty t184 x12_1).size < 1) = false := decide_eq_false (by omega)
                  clear c10
                  (first | rw [c10b0] | (simp only [i64_w, i32_w]; rw [c10b0]) | skip)
                  by_cases c11 : ((rdOf ByteArray.empty t184 x12_1).size : Int) > 63
                  · rw [if_pos c11] at H
                    have c11b0 : decide (63 < ((rdOf ByteArray.empty t184 x12_1).size : Int)) = true := decide_eq_true c11
                    have c11b1 : decide (63 < (rdOf ByteArray.empty t184 x12_1).size) = true := decide_eq_true (by omega)
                    clear c11
                    have H' := Aside0.mk H
                    clear H
                    go_wp2
                    go_meet
                    case rel => exact ⟨_, (true), (by first | rfl | (simp; done) | (simp [*]; done)), H', ⟨by have := HK1.out; first | omega | exact Nat.le_refl _⟩, ⟨by (with_reducible repeat (first | apply Kd.R_alloc | apply Kd.R_drewN | apply Kd.R_drew)); exact HO_10.out⟩, ⟨by repeat (first | (with_reducible first | exact HB.out | apply below_alloc | apply pw_below_drewN | apply below_drew1) | exact HB.out)⟩⟩
                  · rw [if_neg c11] at H
                    have c11b0 : decide (63 < ((rdOf ByteArray.empty t184 x12_1).size : Int)) = false := decide_eq_false c11
                    have c11b1 : decide (63 < (rdOf ByteArray.empty t184 x12_1).size) = false := decide_eq_false (by omega)
                    clear c11
                    by_cases c12 : 0 < ((rdOf ByteArray.empty t184 x12_1).size : Int)
                    · rw [if_pos c12] at H
                      have c12b0 : decide (0 < ((rdOf ByteArray.empty t184 x12_1).size : Int)) = true := decide_eq_true c12
                      have c12b1 : decide (0 < (rdOf ByteArray.empty t184 x12_1).size) = true := decide_eq_true (by omega)
                      clear c12
                      by_cases c14 : (bt (rdOf ByteArray.empty t184 x12_1) 0) = 45
                      · rw [if_pos c14] at H
                        have c14b0 : ((bt (rdOf ByteArray.empty t184 x12_1) 0) == 45) = true := beq_iff_eq.mpr c14
                        have c14b1 : ((bt (rdOf ByteArray.empty t184 x12_1) 0) != 45) = false := bne_eq_false_iff_eq.mpr c14
                        clear c14
                        have H' := Aside0.mk H
                        clear H
                        have p13 : 0 ≤ (0 : Int) := (by omega)
                        have q13 : 0 < (rdOf ByteArray.empty t184 x12_1).size := (by have : (0 : Int) < ((rdOf ByteArray.empty t184 x12_1).size : Int) := of_decide_eq_true (by first | (with_reducible assumption) | assumption); omega)
                        have hx13 : ∀ h : 0 < (rdOf ByteArray.empty t184 x12_1).size, (((rdOf ByteArray.empty t184 x12_1)[0]'h).toNat : Int) = bt (rdOf ByteArray.empty t184 x12_1) 0 := bt_at (rdOf ByteArray.empty t184 x12_1) 0
                        clear p13
                        have qi13 : (0 < ((rdOf ByteArray.empty t184 x12_1).size : Int)) = True := eq_true (of_decide_eq_true (by first | (with_reducible assumption) | assumption))
                        replace q13 := eq_true q13
                        go_wp2
                        go_meet
                        case rel => exact ⟨_, (true), (by first | rfl | (simp; done) | (simp [*]; done)), H', ⟨by have := HK1.out; first | omega | exact Nat.le_refl _⟩, ⟨by (with_reducible repeat (first | apply Kd.R_alloc | apply Kd.R_drewN | apply Kd.R_drew)); exact HO_10.out⟩, ⟨by repeat (first | (with_reducible first | exact HB.out | apply below_alloc | apply pw_below_drewN | apply below_drew1) | exact HB.out)⟩⟩
                      · rw [if_neg c14] at H
                        have c14b0 : ((bt (rdOf ByteArray.empty t184 x12_1) 0) == 45) = false := beq_eq_false_iff_ne.mpr c14
                        have c14b1 : ((bt (rdOf ByteArray.empty t184 x12_1) 0) != 45) = true := bne_iff_ne.mpr c14
                        obtain ⟨ji15, hji15⟩ : ∃ j_ : Int, (wrap64 (((rdOf ByteArray.empty t184 x12_1).size : Int) - 1)) = j_ := ⟨_, rfl⟩
                        replace H : (if 0 ≤ (ji15) then (if (ji15) < ((rdOf ByteArray.empty t184 x12_1).size : Int) then (certpathref07_DNS.j1 k1 (rdOf ByteArray.empty t184 x12_1) t184 (t184.length : Int) x12_1 ((bt (rdOf ByteArray.empty t184 x12_1) (ji15)) == 45)) else (none)) else (none)) = some r := by first | (rw [hji15] at H; exact H) | (simp only [hji15] at H ⊢; exact H)
                        have hji15w : (IntKind.i64.wrap (((rdOf ByteArray.empty t184 x12_1).size : Int) - 1)) = ji15 := (i64_w _).trans hji15
                        by_cases c16 : 0 ≤ (ji15)
                        · rw [if_pos c16] at H
                          have c16b0 : decide (0 ≤ (ji15)) = true := decide_eq_true c16
                          clear c16
                          by_cases c17 : (ji15) < ((rdOf ByteArray.empty t184 x12_1).size : Int)
                          · rw [if_pos c17] at H
                            have c17b0 : decide ((ji15) < ((rdOf ByteArray.empty t184 x12_1).size : Int)) = true := decide_eq_true c17
                            clear c17
                            have H' := Aside0.mk H
                            clear H
                            have p13 : 0 ≤ (0 : Int) := (by omega)
                            have q13 : 0 < (rdOf ByteArray.empty t184 x12_1).size := (by have : (0 : Int) < ((rdOf ByteArray.empty t184 x12_1).size : Int) := of_decide_eq_true (by first | (with_reducible assumption) | assumption); omega)
                            have hx13 : ∀ h : 0 < (rdOf ByteArray.empty t184 x12_1).size, (((rdOf ByteArray.empty t184 x12_1)[0]'h).toNat : Int) = bt (rdOf ByteArray.empty t184 x12_1) 0 := bt_at (rdOf ByteArray.empty t184 x12_1) 0
                            clear p13
                            have qi13 : (0 < ((rdOf ByteArray.empty t184 x12_1).size : Int)) = True := eq_true (of_decide_eq_true (by first | (with_reducible assumption) | assumption))
                            replace q13 := eq_true q13
                            have p18 : 0 ≤ ((ji15) : Int) := of_decide_eq_true (by first | (with_reducible assumption) | assumption)
                            have q18 : (ji15) < ((rdOf ByteArray.empty t184 x12_1).size : Int) := of_decide_eq_true (by first | (with_reducible assumption) | assumption)
                            have hx18 := bt_at (rdOf ByteArray.empty t184 x12_1) (ji15)
                            replace p18 := eq_true p18
                            replace q18 := eq_true q18
                            go_wp2
                            go_meet
                            case rel => exact ⟨_, (((bt (rdOf ByteArray.empty t184 x12_1) (ji15)) == 45)), (by first | rfl | (simp; done) | (simp only [← hji15] <;> (first | rfl | simp)) | (simp [*]; done)), H', ⟨by have := HK1.out; first | omega | exact Nat.le_refl _⟩, ⟨by (with_reducible repeat (first | apply Kd.R_alloc | apply Kd.R_drewN | apply Kd.R_drew)); exact HO_10.out⟩, ⟨by repeat (first | (with_reducible first | exact HB.out | apply below_alloc | apply pw_below_drewN | apply below_drew1) | exact HB.out)⟩⟩
                          · rw [if_neg c17] at H
                            exact absurd H (by simp)
                        · rw [if_neg c16] at H
                          exact absurd H (by simp)
                    · rw [if_neg c12] at H
                      exact absurd H (by simp)
              case rest =>
                clear HC9
                try clear c1
                try clear p1
                try clear q1
                try clear hx1
                try clear qi1
                try clear c2
                try clear c2b0
                try clear c2b1
                try clear p2
                try clear c4
                try clear c6
                try clear c6b0
                try clear p6
                try clear c7
                try clear c7b0
                try clear c8
                try clear c8b0
                try clear c10
                try clear c10b0
                try clear c10b1
                try clear c11
                try clear c11b0
                try clear c11b1
                try clear c12
                try clear c12b0
                try clear c12b1
                try clear p13
                try clear q13
                try clear hx13
                try clear qi13
                try clear c14
                try clear c14b0
                try clear c14b1
                try clear c16
                try clear c16b0
                try clear c17
                try clear c17b0
                try clear p18
                try clear q18
                try clear hx18
                try clear hx187_0
                try clear p13
                try clear p18
                try clear p187
                try clear p2
                try clear q13
                try clear q18
                try clear q187
                obtain ⟨kq, x36_8, rfl, HA, HJ8, HO_10, HB⟩ := hcut
                cases kq with
                | zero => exact absurd HA.out (by simp [certpathref07_DNS.j1])
                | succ kj8 =>
                  have H := HA.out
                  clear HA
                  simp only [certpathref07_DNS.j1] at H
                  by_cases c19 : x36_8 = true
                  · subst c19
                    have H1 : (some false) = some r := by rw [if_pos rfl] at H; exact H
                    clear H
                    have H := H1
                    clear H1
                    obtain rfl := Option.some.inj H
                    go_wp2
                    go_ret
                    exact ⟨by first | rfl | (simp [errW_none, errW_some] <;> rfl) | (simp [*, errW_none, errW_some] <;> rfl), by repeat (first | (with_reducible first | exact HB.out | apply below_alloc | apply pw_below_drewN | apply below_drew1) | exact HB.out)⟩
                  · replace c19 := Bool.eq_false_iff.mpr c19
                    subst c19
                    have H1 : (certpathref07_DNS.l1 kj8 (rdOf ByteArray.empty t184 x12_1) 0 t184 (t184.length : Int) x12_1) = some r := by rw [if_neg (show ¬ (false = true) by decide)] at H; exact H
                    clear H
                    have H := H1
                    clear H1
                    have H' := Aside0.mk H
                    clear H
                    go_wp2
                    go_loopg [5] kj8 (fun kq v5 w' => ∃ (x5_3 : Int), v5 = .int .i64 x5_3 ∧ Aside0 (certpathref07_DNS.l1 kq (rdOf ByteArray.empty t184 x12_1) x5_3 t184 (t184.length : Int) x12_1 = some r) ∧ Aside0 (kq ≤ kj8) ∧ Aside0 (Kd.R Kd.string 9 w' w.heap.size (fun _ => True) (.slice (some ad187) t184.length co5) t184) ∧ Aside0 (Below w.heap.size w w'))
                    case atStart => exact ⟨(0), (by first | rfl | (simp; done) | (simp [*]; done)), H', ⟨Nat.le_refl _⟩, ⟨by (with_reducible repeat (first | apply Kd.R_alloc | apply Kd.R_drewN | apply Kd.R_drew)); exact HO_10.out⟩, ⟨by repeat (first | (with_reducible first | exact HB.out | apply below_alloc | apply pw_below_drewN | apply below_drew1) | exact HB.out)⟩⟩
                    case round =>
                      clear H'
                      try clear c1
                      try clear p1
                      try clear q1
                      try clear hx1
                      try clear qi1
                      try clear c2
                      try clear c2b0
                      try clear c2b1
                      try clear p2
                      try clear c4
                      try clear c6
                      try clear c6b0
                      try clear p6
                      try clear c7
                      try clear c7b0
                      try clear c8
                      try clear c8b0
                      try clear c10
                      try clear c10b0
                      try clear c10b1
                      try clear c11
                      try clear c11b0
                      try clear c11b1
                      try clear c12
                      try clear c12b0
                      try clear c12b1
                      try clear p13
                      try clear q13
                      try clear hx13
                      try clear qi13
                      try clear c14
                      try clear c14b0
                      try clear c14b1
                      try clear c16
                      try clear c16b0
                      try clear c17
                      try clear c17b0
                      try clear p18
                      try clear q18
                      try clear hx18
                      try clear c19
                      try clear hx187_0
                      try clear p1
                      try clear p13
                      try clear p18
                      try clear p187
                      try clear p2
                      try clear p6
                      try clear q1
                      try clear q13
                      try clear q18
                      try clear q187
                      obtain ⟨x5_3, rfl, HA, HK3, HO_10, HB⟩ := hrel
                      cases gk with
                      | zero => exact absurd HA.out (by simp [certpathref07_DNS.l1])
                      | succ k3 =>
                        have H := HA.out
                        clear HA
                        simp only [certpathref07_DNS.l1] at H
                        by_cases c20 : x5_3 < ((rdOf ByteArray.empty t184 x12_1).size : Int)
                        · rw [if_pos c20] at H
                          have c20b0 : decide (x5_3 < ((rdOf ByteArray.empty t184 x12_1).size : Int)) = true := decide_eq_true c20
                          clear c20
                          by_cases c21 : 0 ≤ x5_3
                          · rw [if_pos c21] at H
                            have c21b0 : decide (0 ≤ x5_3) = true := decide_eq_true c21
                            clear c21
                            replace H := Option.bind_eq_some_iff.mp H
                            obtain ⟨t188, A230, H⟩ := H
                            replace H : (if t188 = true then (certpathref07_DNS.l1 k3 (rdOf ByteArray.empty t184 x12_1) (wrap64 (x5_3 + 1)) t184 (t184.length : Int) x12_1) else (if (bt (rdOf ByteArray.empty t184 x12_1) x5_3) = 45 then (certpathref07_DNS.l1 k3 (rdOf ByteArray.empty t184 x12_1) (wrap64 (x5_3 + 1)) t184 (t184.length : Int) x12_1) else (some false))) = some r := H
                            have A23 := Aside0.mk A230
                            clear A230
                            by_cases c24 : t188 = true
                            · subst c24
                              have H1 : (certpathref07_DNS.l1 k3 (rdOf ByteArray.empty t184 x12_1) (wrap64 (x5_3 + 1)) t184 (t184.length : Int) x12_1) = some r := by rw [if_pos rfl] at H; exact H
                              clear H
                              have H := H1
                              clear H1
                              have H' := Aside0.mk H
                              clear H
                              have p22 : 0 ≤ (x5_3 : Int) := of_decide_eq_true (by first | (with_reducible assumption) | assumption)
                              have q22 : x5_3 < ((rdOf ByteArray.empty t184 x12_1).size : Int) := of_decide_eq_true (by first | (with_reducible assumption) | assumption)
                              have hx22 := bt_at (rdOf ByteArray.empty t184 x12_1) x5_3
                              replace p22 := eq_true p22
                              replace q22 := eq_true q22
                              go_wp2_with (first | ((with_reducible refine gate_callee (f := 42) rfl ?_); refine goesL_ (some 46) rfl rfl Tryd.func42 (by kernel_rfl) rfl #[.int .u8 (bt (rdOf ByteArray.empty t184 x12_1) x5_3)] rfl (by (try simp only [List.map_toArray, List.map_cons, List.map_nil]); first | done | rfl | (simp only [List.length_drop, List.length_take]; rfl)) ?_; (with_reducible refine (certpathref01_Alnum.calls (bt (rdOf ByteArray.empty t184 x12_1) x5_3) true _ ?side1 A23.out).mono ?_); (case side1 => refine Ext.G.step ?_ hG_; repeat (first | (with_reducible first | exact HB.out | apply below_alloc | apply pw_below_drewN | apply below_drew1) | exact HB.out)); rintro e w' ⟨rfl, ⟨nd, rfl⟩⟩; refine ⟨_, rfl, ?_⟩))
                              go_roundg k3
                              case measure => have := HK1.out; have := HJ8.out; have := HK3.out; omega
                              case rel => exact ⟨(wrap64 (x5_3 + 1)), (by first | rfl | (simp; done) | (simp [*]; done)), H', ⟨by have := HK1.out; have := HJ8.out; have := HK3.out; omega⟩, ⟨by (with_reducible repeat (first | apply Kd.R_alloc | apply Kd.R_drewN | apply Kd.R_drew)); exact HO_10.out⟩, ⟨by repeat (first | (with_reducible first | exact HB.out | apply below_alloc | apply pw_below_drewN | apply below_drew1) | exact HB.out)⟩⟩
                            · replace c24 := Bool.eq_false_iff.mpr c24
                              subst c24
                              have H1 : (if (bt (rdOf ByteArray.empty t184 x12_1) x5_3) = 45 then (certpathref07_DNS.l1 k3 (rdOf ByteArray.empty t184 x12_1) (wrap64 (x5_3 + 1)) t184 (t184.length : Int) x12_1) else (some false)) = some r := by rw [if_neg (show ¬ (false = true) by decide)] at H; exact H
                              clear H
                              have H := H1
                              clear H1
                              by_cases c26 : (bt (rdOf ByteArray.empty t184 x12_1) x5_3) = 45
                              · rw [if_pos c26] at H
                                have c26b0 : ((bt (rdOf ByteArray.empty t184 x12_1) x5_3) == 45) = true := beq_iff_eq.mpr c26
                                have c26b1 : ((bt (rdOf ByteArray.empty t184 x12_1) x5_3) != 45) = false := bne_eq_false_iff_eq.mpr c26
                                clear c26
                                have H' := Aside0.mk H
                                clear H
                                have p22 : 0 ≤ (x5_3 : Int) := of_decide_eq_true (by first | (with_reducible assumption) | assumption)
                                have q22 : x5_3 < ((rdOf ByteArray.empty t184 x12_1).size : Int) := of_decide_eq_true (by first | (with_reducible assumption) | assumption)
                                have hx22 := bt_at (rdOf ByteArray.empty t184 x12_1) x5_3
                                replace p22 := eq_true p22
                                replace q22 := eq_true q22
                                go_wp2_with (first | ((with_reducible refine gate_callee (f := 42) rfl ?_); refine goesL_ (some 46) rfl rfl Tryd.func42 (by kernel_rfl) rfl #[.int .u8 (bt (rdOf ByteArray.empty t184 x12_1) x5_3)] rfl (by (try simp only [List.map_toArray, List.map_cons, List.map_nil]); first | done | rfl | (simp only [List.length_drop, List.length_take]; rfl)) ?_; (with_reducible refine (certpathref01_Alnum.calls (bt (rdOf ByteArray.empty t184 x12_1) x5_3) false _ ?side1 A23.out).mono ?_); (case side1 => refine Ext.G.step ?_ hG_; repeat (first | (with_reducible first | exact HB.out | apply below_alloc | apply pw_below_drewN | apply below_drew1) | exact HB.out)); rintro e w' ⟨rfl, ⟨nd, rfl⟩⟩; refine ⟨_, rfl, ?_⟩; have p25 : 0 ≤ (x5_3 : Int) := of_decide_eq_true (by first | (with_reducible assumption) | assumption); have q25 : x5_3 < ((rdOf ByteArray.empty t184 x12_1).size : Int) := of_decide_eq_true (by first | (with_reducible assumption) | assumption); have hx25 := bt_at (rdOf ByteArray.empty t184 x12_1) x5_3; replace p25 := eq_true p25; replace q25 := eq_true q25))
                                go_roundg k3
                                case measure => have := HK1.out; have := HJ8.out; have := HK3.out; omega
                                case rel => exact ⟨(wrap64 (x5_3 + 1)), (by first | rfl | (simp; done) | (simp [*]; done)), H', ⟨by have := HK1.out; have := HJ8.out; have := HK3.out; omega⟩, ⟨by (with_reducible repeat (first | apply Kd.R_alloc | apply Kd.R_drewN | apply Kd.R_drew)); exact HO_10.out⟩, ⟨by repeat (first | (with_reducible first | exact HB.out | apply below_alloc | apply pw_below_drewN | apply below_drew1) | exact HB.out)⟩⟩
                              · rw [if_neg c26] at H
                                have c26b0 : ((bt (rdOf ByteArray.empty t184 x12_1) x5_3) == 45) = false := beq_eq_false_iff_ne.mpr c26
                                have c26b1 : ((bt (rdOf ByteArray.empty t184 x12_1) x5_3) != 45) = true := bne_iff_ne.mpr c26
                                obtain rfl := Option.some.inj H
                                have p22 : 0 ≤ (x5_3 : Int) := of_decide_eq_true (by first | (with_reducible assumption) | assumption)
                                have q22 : x5_3 < ((rdOf ByteArray.empty t184 x12_1).size : Int) := of_decide_eq_true (by first | (with_reducible assumption) | assumption)
                                have hx22 := bt_at (rdOf ByteArray.empty t184 x12_1) x5_3
                                replace p22 := eq_true p22
                                replace q22 := eq_true q22
                                go_wp2_with (first | ((with_reducible refine gate_callee (f := 42) rfl ?_); refine goesL_ (some 46) rfl rfl Tryd.func42 (by kernel_rfl) rfl #[.int .u8 (bt (rdOf ByteArray.empty t184 x12_1) x5_3)] rfl (by (try simp only [List.map_toArray, List.map_cons, List.map_nil]); first | done | rfl | (simp only [List.length_drop, List.length_take]; rfl)) ?_; (with_reducible refine (certpathref01_Alnum.calls (bt (rdOf ByteArray.empty t184 x12_1) x5_3) false _ ?side1 A23.out).mono ?_); (case side1 => refine Ext.G.step ?_ hG_; repeat (first | (with_reducible first | exact HB.out | apply below_alloc | apply pw_below_drewN | apply below_drew1) | exact HB.out)); rintro e w' ⟨rfl, ⟨nd, rfl⟩⟩; refine ⟨_, rfl, ?_⟩; have p25 : 0 ≤ (x5_3 : Int) := of_decide_eq_true (by first | (with_reducible assumption) | assumption); have q25 : x5_3 < ((rdOf ByteArray.empty t184 x12_1).size : Int) := of_decide_eq_true (by first | (with_reducible assumption) | assumption); have hx25 := bt_at (rdOf ByteArray.empty t184 x12_1) x5_3; replace p25 := eq_true p25; replace q25 := eq_true q25))
                                go_ret
                                exact ⟨by first | rfl | (simp [errW_none, errW_some] <;> rfl) | (simp [*, errW_none, errW_some] <;> rfl), by repeat (first | (with_reducible first | exact HB.out | apply below_alloc | apply pw_below_drewN | apply below_drew1) | exact HB.out)⟩
                          · rw [if_neg c21] at H
                            exact absurd H (by simp)
                        · rw [if_neg c20] at H
                          have c20b0 : decide (x5_3 < ((rdOf ByteArray.empty t184 x12_1).size : Int)) = false := decide_eq_false c20
                          clear c20
                          have H' := Aside0.mk H
                          clear H
                          go_wp2
                          go_roundg k3
                          case measure => have := HK1.out; have := HJ8.out; have := HK3.out; omega
                          case rel => exact ⟨(wrap64 (x12_1 + 1)), (by first | rfl | (simp; done) | (simp [*]; done)), H', ⟨by have := HK1.out; have := HJ8.out; have := HK3.out; omega⟩, ⟨by (with_reducible repeat (first | apply Kd.R_alloc | apply Kd.R_drewN | apply Kd.R_drew)); exact HO_10.out⟩, ⟨by repeat (first | (with_reducible first | exact HB.out | apply below_alloc | apply pw_below_drewN | apply below_drew1) | exact HB.out)⟩⟩
            · rw [if_neg c8] at H
              exact absurd H (by simp)
          · rw [if_neg c7] at H
            exact absurd H (by simp)
        · rw [if_neg c6] at H
          have c6b0 : decide (x12_1 < (t184.length : Int)) = false := decide_eq_false c6
          clear c6
          obtain rfl := Option.some.inj H
          go_wp2
          go_ret
          exact ⟨by first | rfl | (simp [errW_none, errW_some] <;> rfl) | (simp [*, errW_none, errW_some] <;> rfl), by repeat (first | (with_reducible first | exact HB.out | apply below_alloc | apply pw_below_drewN | apply below_drew1) | exact HB.out)⟩

end Go.Proofs.YtegmenlonpgnpaaDoor.Q
