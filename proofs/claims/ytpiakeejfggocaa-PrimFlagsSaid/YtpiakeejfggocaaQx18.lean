-- Written by a program of this session (wip/prn.py) out of the translation, for the seat Ytpiakeejfggocaa. Not trusted: Lean checks it.
import Derived.Test.YtpiakeejfggocaaQx0
import Derived.Test.YtpiakeejfggocaaQx12
namespace Go.Proofs.Ytpiakeejfggocaa.Q
open Go.RowKit Go.Proofs.YtpiakeejfggocaaW.PrintWords Go.Proofs.YtpiakeejfggocaaW.PrintLast Go.Proofs.YtpiakeejfggocaaW.PrintMore
attribute [local go_sem] max2_int min2_int max_two min_two max_three min_three max_four min_four   -- for this text's walks alone
set_option linter.unusedVariables false
set_option linter.unusedSimpArgs false

/-! ### certpathref01_Flags: function 23 -/
mutual
def certpathref01_Flags.j0 : Nat → ByteArray → Int → Bool → Option (Int × Int)
  | 0, _, _, _ => none
  | k + 1, x4, x7, x36 => if x36 = true then (some (0, 7)) else (if x7 > 16 then (some (0, 1)) else (certpathref01_Flags.l0 k x4 x7 0 0))
def certpathref01_Flags.l0 : Nat → ByteArray → Int → Int → Int → Option (Int × Int)
  | 0, _, _, _, _ => none
  | k + 1, x4, x7, x8, x9 => if x9 < x7 then (if 0 ≤ (wrap64 (Int.tdiv x9 8)) then (if (wrap64 (Int.tdiv x9 8)) < (x4.size : Int) then (if 0 ≤ (wrap64 (7 - (Int.tmod x9 8))) then (if (Int.tmod (shr .u8 (bt x4 (wrap64 (Int.tdiv x9 8))) (wrap64 (7 - (Int.tmod x9 8)))) 2) = 1 then (if 0 ≤ x9 then (certpathref01_Flags.l0 k x4 x7 (Go.bits .or .i64 x8 (shl .i64 1 x9)) (wrap64 (x9 + 1))) else (none)) else (certpathref01_Flags.l0 k x4 x7 x8 (wrap64 (x9 + 1)))) else (none)) else (none)) else (none)) else (some (x8, 0))
end
def certpathref01_Flags.f (k : Nat) (a0 : ByteArray) : Option (Int × Int) := (certpathref01_Bits.f a0).bind fun bt199 => (if bt199.2.2 = 0 then (if (wrap64 ((wrap64 (8 * (bt199.1.size : Int))) - bt199.2.1)) > 0 then (if 0 ≤ (wrap64 ((bt199.1.size : Int) - 1)) then (if (wrap64 ((bt199.1.size : Int) - 1)) < (bt199.1.size : Int) then (if 0 ≤ bt199.2.1 then (certpathref01_Flags.j0 k bt199.1 (wrap64 ((wrap64 (8 * (bt199.1.size : Int))) - bt199.2.1)) ((Int.tmod (shr .u8 (bt bt199.1 (wrap64 ((bt199.1.size : Int) - 1))) bt199.2.1) 2) == 0)) else (none)) else (none)) else (none)) else (certpathref01_Flags.j0 k bt199.1 (wrap64 ((wrap64 (8 * (bt199.1.size : Int))) - bt199.2.1)) false)) else (some (0, bt199.2.2)))
theorem certpathref01_Flags.mono_l : ∀ k, (∀ y0 y1 y2, LeO (certpathref01_Flags.j0 k y0 y1 y2) (certpathref01_Flags.j0 (k + 1) y0 y1 y2)) ∧ (∀ y0 y1 y2 y3, LeO (certpathref01_Flags.l0 k y0 y1 y2 y3) (certpathref01_Flags.l0 (k + 1) y0 y1 y2 y3))
  | 0 => ⟨fun _ _ _ r h => by simp [certpathref01_Flags.j0] at h, fun _ _ _ _ r h => by simp [certpathref01_Flags.l0] at h⟩
  | k + 1 => by
    obtain ⟨ih0, ih1⟩ := certpathref01_Flags.mono_l k
    refine ⟨?_, ?_⟩
    · intro y0 y1 y2
      unfold certpathref01_Flags.j0
      repeat' first
      | (with_reducible exact ih0 _ _ _)
      | (with_reducible exact ih1 _ _ _ _)
      | (with_reducible exact LeO.refl _)
      | (with_reducible exact LeO.none _)
      | (with_reducible refine LeO.ite ?_ ?_)
      | (with_reducible refine LeO.bind ?_ (fun _ => ?_))
      | exact ih0 _ _ _
      | exact ih1 _ _ _ _
      | exact LeO.none _
      | refine LeO.ite ?_ ?_
      | refine LeO.bind ?_ (fun _ => ?_)
    · intro y0 y1 y2 y3
      unfold certpathref01_Flags.l0
      repeat' first
      | (with_reducible exact ih0 _ _ _)
      | (with_reducible exact ih1 _ _ _ _)
      | (with_reducible exact LeO.refl _)
      | (with_reducible exact LeO.none _)
      | (with_reducible refine LeO.ite ?_ ?_)
      | (with_reducible refine LeO.bind ?_ (fun _ => ?_))
      | exact ih0 _ _ _
      | exact ih1 _ _ _ _
      | exact LeO.none _
      | refine LeO.ite ?_ ?_
      | refine LeO.bind ?_ (fun _ => ?_)
theorem certpathref01_Flags.mono : ∀ a0 k, LeO (certpathref01_Flags.f k a0) (certpathref01_Flags.f (k + 1) a0) := by
  intro a0 k
  obtain ⟨ih0, ih1⟩ := certpathref01_Flags.mono_l k
  unfold certpathref01_Flags.f
  repeat' first
      | (with_reducible exact ih0 _ _ _)
      | (with_reducible exact ih1 _ _ _ _)
      | (with_reducible exact LeO.refl _)
      | (with_reducible exact LeO.none _)
      | (with_reducible refine LeO.ite ?_ ?_)
      | (with_reducible refine LeO.bind ?_ (fun _ => ?_))
      | exact ih0 _ _ _
      | exact ih1 _ _ _ _
      | exact LeO.none _
      | refine LeO.ite ?_ ?_
      | refine LeO.bind ?_ (fun _ => ?_)
set_option maxHeartbeats 8000000 in
set_option maxRecDepth 100000 in
theorem certpathref01_Flags.calls (k : Nat) (a0 : ByteArray) (r1 : Int) (r2 : Int) (w : World) (h : certpathref01_Flags.f k a0 = some (r1, r2)) :
    Calls Try.prog 23 #[.string a0] w fun e w' => e = .returned (.tuple #[.int .i64 r1, .int .i64 r2]) ∧ Drawn0 w w' := by
  have H : ((certpathref01_Bits.f a0).bind fun bt199 => (if bt199.2.2 = 0 then (if (wrap64 ((wrap64 (8 * (bt199.1.size : Int))) - bt199.2.1)) > 0 then (if 0 ≤ (wrap64 ((bt199.1.size : Int) - 1)) then (if (wrap64 ((bt199.1.size : Int) - 1)) < (bt199.1.size : Int) then (if 0 ≤ bt199.2.1 then (certpathref01_Flags.j0 k bt199.1 (wrap64 ((wrap64 (8 * (bt199.1.size : Int))) - bt199.2.1)) ((Int.tmod (shr .u8 (bt bt199.1 (wrap64 ((bt199.1.size : Int) - 1))) bt199.2.1) 2) == 0)) else (none)) else (none)) else (none)) else (certpathref01_Flags.j0 k bt199.1 (wrap64 ((wrap64 (8 * (bt199.1.size : Int))) - bt199.2.1)) false)) else (some (0, bt199.2.2)))) = some (r1, r2) := h
  clear h
  replace H := Option.bind_eq_some_iff.mp H
  obtain ⟨⟨t199, t200, t201⟩, A20, H⟩ := H
  replace H : (if t201 = 0 then (if (wrap64 ((wrap64 (8 * (t199.size : Int))) - t200)) > 0 then (if 0 ≤ (wrap64 ((t199.size : Int) - 1)) then (if (wrap64 ((t199.size : Int) - 1)) < (t199.size : Int) then (if 0 ≤ t200 then (certpathref01_Flags.j0 k t199 (wrap64 ((wrap64 (8 * (t199.size : Int))) - t200)) ((Int.tmod (shr .u8 (bt t199 (wrap64 ((t199.size : Int) - 1))) t200) 2) == 0)) else (none)) else (none)) else (none)) else (certpathref01_Flags.j0 k t199 (wrap64 ((wrap64 (8 * (t199.size : Int))) - t200)) false)) else (some (0, t201))) = some (r1, r2) := H
  have A2 := Aside0.mk A20
  clear A20
  by_cases c3 : t201 = 0
  · rw [if_pos c3] at H
    have c3b0 : (t201 == 0) = true := beq_iff_eq.mpr c3
    have c3b1 : (t201 != 0) = false := bne_eq_false_iff_eq.mpr c3
    clear c3
    have HC4 := Aside0.mk H
    clear H
    go_enter Try.func23, Try.ntmps23
    go_upto_region 5 with (first | ((with_reducible refine gate_callee (f := 19) rfl ?_); refine goesL_ (some 12) rfl rfl Try.func19 (by kernel_rfl) rfl #[.string a0] rfl (by (try simp only [List.map_toArray, List.map_cons, List.map_nil]); first | done | rfl | (simp only [List.length_drop, List.length_take]; rfl)) ?_; (with_reducible refine (certpathref01_Bits.calls a0 t199 t200 t201 _ A2.out).mono ?_); rintro e w' ⟨rfl, ⟨nd, rfl⟩⟩; refine ⟨_, rfl, ?_⟩))
    (try simp only [Act.put, List.setIfInBounds_toArray, List.set_cons_zero, List.set_cons_succ])
    go_cut [36] (fun v36 wc => ∃ (kq : Nat) (x36_3 : Bool), v36 = .bool x36_3 ∧ Aside0 (certpathref01_Flags.j0 kq t199 (wrap64 ((wrap64 (8 * (t199.size : Int))) - t200)) x36_3 = some (r1, r2)) ∧ Aside0 (kq ≤ k) ∧ Drawn0 w wc)
    case first =>
      have H := HC4.out
      clear HC4
      by_cases c5 : (wrap64 ((wrap64 (8 * (t199.size : Int))) - t200)) > 0
      · rw [if_pos c5] at H
        have c5b0 : decide (0 < (wrap64 ((wrap64 (8 * (t199.size : Int))) - t200))) = true := decide_eq_true c5
        clear c5
        (first | rw [c5b0] | (simp only [i64_w, i32_w]; rw [c5b0]) | skip)
        obtain ⟨ji6, hji6⟩ : ∃ j_ : Int, (wrap64 ((t199.size : Int) - 1)) = j_ := ⟨_, rfl⟩
        replace H : (if 0 ≤ (ji6) then (if (ji6) < (t199.size : Int) then (if 0 ≤ t200 then (certpathref01_Flags.j0 k t199 (wrap64 ((wrap64 (8 * (t199.size : Int))) - t200)) ((Int.tmod (shr .u8 (bt t199 (ji6)) t200) 2) == 0)) else (none)) else (none)) else (none)) = some (r1, r2) := by first | (rw [hji6] at H; exact H) | (simp only [hji6] at H ⊢; exact H)
        have hji6w : (IntKind.i64.wrap ((t199.size : Int) - 1)) = ji6 := (i64_w _).trans hji6
        by_cases c7 : 0 ≤ (ji6)
        · rw [if_pos c7] at H
          have c7b0 : decide (0 ≤ (ji6)) = true := decide_eq_true c7
          clear c7
          by_cases c8 : (ji6) < (t199.size : Int)
          · rw [if_pos c8] at H
            have c8b0 : decide ((ji6) < (t199.size : Int)) = true := decide_eq_true c8
            clear c8
            by_cases c10 : 0 ≤ t200
            · rw [if_pos c10] at H
              have c10b0 := eq_true c10
              have c10b1 : decide (0 ≤ t200) = true := decide_eq_true c10
              clear c10
              obtain ⟨ji11, hji11⟩ : ∃ j_ : Int, (shr .u8 (bt t199 (ji6)) t200) = j_ := ⟨_, rfl⟩
              replace H : (certpathref01_Flags.j0 k t199 (wrap64 ((wrap64 (8 * (t199.size : Int))) - t200)) ((Int.tmod (ji11) 2) == 0)) = some (r1, r2) := by first | (rw [hji11] at H; exact H) | (simp only [hji11] at H ⊢; exact H)
              have hji11_ : ((bt t199 (ji6)) / 2 ^ min t200.toNat 8) = ji11 := hji11
              have hji11z : t200 ≤ 8 → ((bt t199 (ji6)) / 2 ^ t200.toNat) = ji11 := shr_small hji11
              have H' := Aside0.mk H
              clear H
              have p9 : 0 ≤ ((ji6) : Int) := of_decide_eq_true (by first | (with_reducible assumption) | assumption)
              have q9 : (ji6) < (t199.size : Int) := of_decide_eq_true (by first | (with_reducible assumption) | assumption)
              have hx9 := bt_at t199 (ji6)
              replace p9 := eq_true p9
              replace q9 := eq_true q9
              go_wp2
              go_meet
              case rel => exact ⟨_, (((Int.tmod (ji11) 2) == 0)), (by first | rfl | (simp; done) | (simp only [← hji11] <;> (first | rfl | simp)) | (simp [*]; done)), H', ⟨by first | omega | exact Nat.le_refl _⟩, by repeat (first | exact Drawn0.refl _ | apply Drawn0.step)⟩
            · rw [if_neg c10] at H
              exact absurd H (by simp)
          · rw [if_neg c8] at H
            exact absurd H (by simp)
        · rw [if_neg c7] at H
          exact absurd H (by simp)
      · rw [if_neg c5] at H
        have c5b0 : decide (0 < (wrap64 ((wrap64 (8 * (t199.size : Int))) - t200))) = false := decide_eq_false c5
        clear c5
        (first | rw [c5b0] | (simp only [i64_w, i32_w]; rw [c5b0]) | skip)
        have H' := Aside0.mk H
        clear H
        go_wp2
        go_meet
        case rel => exact ⟨_, (false), (by first | rfl | (simp; done) | (simp [*]; done)), H', ⟨by first | omega | exact Nat.le_refl _⟩, by repeat (first | exact Drawn0.refl _ | apply Drawn0.step)⟩
    case rest =>
      clear HC4
      try clear c1
      try clear c2
      try clear p2
      try clear c3
      try clear c3b0
      try clear c3b1
      try clear c5
      try clear c5b0
      try clear p6
      try clear c7
      try clear c7b0
      try clear c8
      try clear c8b0
      try clear p9
      try clear q9
      try clear hx9
      try clear c10
      try clear c10b0
      try clear c10b1
      try clear p9
      try clear q9
      obtain ⟨kq, x36_3, rfl, HA, HJ3, ⟨mc3, rfl⟩⟩ := hcut
      cases kq with
      | zero => exact absurd HA.out (by simp [certpathref01_Flags.j0])
      | succ kj3 =>
        have H := HA.out
        clear HA
        simp only [certpathref01_Flags.j0] at H
        by_cases c12 : x36_3 = true
        · subst c12
          have H1 : (some (0, 7)) = some (r1, r2) := by rw [if_pos rfl] at H; exact H
          clear H
          have H := H1
          clear H1
          simp only [Option.some.injEq, Prod.mk.injEq] at H
          obtain ⟨rfl, rfl⟩ := H
          go_wp2
          go_ret2
          exact ⟨by first | rfl | (simp; done) | (simp [*]; done), by repeat (first | exact Drawn0.refl _ | apply Drawn0.step)⟩
        · replace c12 := Bool.eq_false_iff.mpr c12
          subst c12
          have H1 : (if (wrap64 ((wrap64 (8 * (t199.size : Int))) - t200)) > 16 then (some (0, 1)) else (certpathref01_Flags.l0 kj3 t199 (wrap64 ((wrap64 (8 * (t199.size : Int))) - t200)) 0 0)) = some (r1, r2) := by rw [if_neg (show ¬ (false = true) by decide)] at H; exact H
          clear H
          have H := H1
          clear H1
          by_cases c13 : (wrap64 ((wrap64 (8 * (t199.size : Int))) - t200)) > 16
          · rw [if_pos c13] at H
            have c13b0 : decide (16 < (wrap64 ((wrap64 (8 * (t199.size : Int))) - t200))) = true := decide_eq_true c13
            clear c13
            simp only [Option.some.injEq, Prod.mk.injEq] at H
            obtain ⟨rfl, rfl⟩ := H
            go_wp2
            go_ret2
            exact ⟨by first | rfl | (simp; done) | (simp [*]; done), by repeat (first | exact Drawn0.refl _ | apply Drawn0.step)⟩
          · rw [if_neg c13] at H
            have c13b0 : decide (16 < (wrap64 ((wrap64 (8 * (t199.size : Int))) - t200))) = false := decide_eq_false c13
            clear c13
            have H' := Aside0.mk H
            clear H
            go_wp2
            go_loopg [8, 9] kj3 (fun kq v8 v9 w' => ∃ (x8_2 : Int) (x9_2 : Int), v8 = .int .i64 x8_2 ∧ v9 = .int .i64 x9_2 ∧ Aside0 (certpathref01_Flags.l0 kq t199 (wrap64 ((wrap64 (8 * (t199.size : Int))) - t200)) x8_2 x9_2 = some (r1, r2)) ∧ Aside0 (kq ≤ kj3) ∧ Drawn0 w w')
            case atStart => exact ⟨(0), (0), (by first | rfl | (simp; done) | (simp [*]; done)), (by first | rfl | (simp; done) | (simp [*]; done)), H', ⟨Nat.le_refl _⟩, by repeat (first | exact Drawn0.refl _ | apply Drawn0.step)⟩
            case round =>
              clear H'
              try clear c1
              try clear c2
              try clear p2
              try clear c3
              try clear c3b0
              try clear c3b1
              try clear c5
              try clear c5b0
              try clear p6
              try clear c7
              try clear c7b0
              try clear c8
              try clear c8b0
              try clear p9
              try clear q9
              try clear hx9
              try clear c10
              try clear c10b0
              try clear c10b1
              try clear c12
              try clear c13
              try clear c13b0
              try clear p2
              try clear p6
              try clear p9
              try clear q9
              obtain ⟨x8_2, x9_2, rfl, rfl, HA, HK2, ⟨m2, rfl⟩⟩ := hrel
              cases gk with
              | zero => exact absurd HA.out (by simp [certpathref01_Flags.l0])
              | succ k2 =>
                have H := HA.out
                clear HA
                simp only [certpathref01_Flags.l0] at H
                by_cases c14 : x9_2 < (wrap64 ((wrap64 (8 * (t199.size : Int))) - t200))
                · rw [if_pos c14] at H
                  have c14b0 : decide (x9_2 < (wrap64 ((wrap64 (8 * (t199.size : Int))) - t200))) = true := decide_eq_true c14
                  clear c14
                  obtain ⟨ji15, hji15⟩ : ∃ j_ : Int, (wrap64 (Int.tdiv x9_2 8)) = j_ := ⟨_, rfl⟩
                  replace H : (if 0 ≤ (ji15) then (if (ji15) < (t199.size : Int) then (if 0 ≤ (wrap64 (7 - (Int.tmod x9_2 8))) then (if (Int.tmod (shr .u8 (bt t199 (ji15)) (wrap64 (7 - (Int.tmod x9_2 8)))) 2) = 1 then (if 0 ≤ x9_2 then (certpathref01_Flags.l0 k2 t199 (wrap64 ((wrap64 (8 * (t199.size : Int))) - t200)) (Go.bits .or .i64 x8_2 (shl .i64 1 x9_2)) (wrap64 (x9_2 + 1))) else (none)) else (certpathref01_Flags.l0 k2 t199 (wrap64 ((wrap64 (8 * (t199.size : Int))) - t200)) x8_2 (wrap64 (x9_2 + 1)))) else (none)) else (none)) else (none)) = some (r1, r2) := by first | (rw [hji15] at H; exact H) | (simp only [hji15] at H ⊢; exact H)
                  have hji15w : (IntKind.i64.wrap (Int.tdiv x9_2 8)) = ji15 := (i64_w _).trans hji15
                  by_cases c16 : 0 ≤ (ji15)
                  · rw [if_pos c16] at H
                    have c16b0 : decide (0 ≤ (ji15)) = true := decide_eq_true c16
                    clear c16
                    by_cases c17 : (ji15) < (t199.size : Int)
                    · rw [if_pos c17] at H
                      have c17b0 : decide ((ji15) < (t199.size : Int)) = true := decide_eq_true c17
                      clear c17
                      obtain ⟨ji19, hji19⟩ : ∃ j_ : Int, (wrap64 (7 - (Int.tmod x9_2 8))) = j_ := ⟨_, rfl⟩
                      replace H : (if 0 ≤ (ji19) then (if (Int.tmod (shr .u8 (bt t199 (ji15)) (ji19)) 2) = 1 then (if 0 ≤ x9_2 then (certpathref01_Flags.l0 k2 t199 (wrap64 ((wrap64 (8 * (t199.size : Int))) - t200)) (Go.bits .or .i64 x8_2 (shl .i64 1 x9_2)) (wrap64 (x9_2 + 1))) else (none)) else (certpathref01_Flags.l0 k2 t199 (wrap64 ((wrap64 (8 * (t199.size : Int))) - t200)) x8_2 (wrap64 (x9_2 + 1)))) else (none)) = some (r1, r2) := by first | (rw [hji19] at H; exact H) | (simp only [hji19] at H ⊢; exact H)
                      have hji19w : (IntKind.i64.wrap (7 - (Int.tmod x9_2 8))) = ji19 := (i64_w _).trans hji19
                      by_cases c20 : 0 ≤ (ji19)
                      · rw [if_pos c20] at H
                        have c20b0 := eq_true c20
                        have c20b1 : decide (0 ≤ (ji19)) = true := decide_eq_true c20
                        clear c20
                        obtain ⟨ji21, hji21⟩ : ∃ j_ : Int, (shr .u8 (bt t199 (ji15)) (ji19)) = j_ := ⟨_, rfl⟩
                        replace H : (if (Int.tmod (ji21) 2) = 1 then (if 0 ≤ x9_2 then (certpathref01_Flags.l0 k2 t199 (wrap64 ((wrap64 (8 * (t199.size : Int))) - t200)) (Go.bits .or .i64 x8_2 (shl .i64 1 x9_2)) (wrap64 (x9_2 + 1))) else (none)) else (certpathref01_Flags.l0 k2 t199 (wrap64 ((wrap64 (8 * (t199.size : Int))) - t200)) x8_2 (wrap64 (x9_2 + 1)))) = some (r1, r2) := by first | (rw [hji21] at H; exact H) | (simp only [hji21] at H ⊢; exact H)
                        have hji21_ : ((bt t199 (ji15)) / 2 ^ min (ji19).toNat 8) = ji21 := hji21
                        have hji21z : (ji19) ≤ 8 → ((bt t199 (ji15)) / 2 ^ (ji19).toNat) = ji21 := shr_small hji21
                        by_cases c22 : (Int.tmod (ji21) 2) = 1
                        · rw [if_pos c22] at H
                          have c22b0 : ((Int.tmod (ji21) 2) == 1) = true := beq_iff_eq.mpr c22
                          have c22b1 : ((Int.tmod (ji21) 2) != 1) = false := bne_eq_false_iff_eq.mpr c22
                          clear c22
                          by_cases c23 : 0 ≤ x9_2
                          · rw [if_pos c23] at H
                            have c23b0 := eq_true c23
                            have c23b1 : decide (0 ≤ x9_2) = true := decide_eq_true c23
                            clear c23
                            obtain ⟨ji24, hji24⟩ : ∃ j_ : Int, (shl .i64 1 x9_2) = j_ := ⟨_, rfl⟩
                            replace H : (certpathref01_Flags.l0 k2 t199 (wrap64 ((wrap64 (8 * (t199.size : Int))) - t200)) (Go.bits .or .i64 x8_2 (ji24)) (wrap64 (x9_2 + 1))) = some (r1, r2) := by first | (rw [hji24] at H; exact H) | (simp only [hji24] at H ⊢; exact H)
                            have hji24_ : (IntKind.i64.wrap (1 * 2 ^ min x9_2.toNat 64)) = ji24 := hji24
                            have hji24z : x9_2 ≤ 64 → (IntKind.i64.wrap (1 * 2 ^ x9_2.toNat)) = ji24 := shl_small hji24
                            have hji24u : (IntKind.i64.wrap (2 ^ min x9_2.toNat 64)) = ji24 := by have h_ := hji24_; rw [Int.one_mul] at h_; exact h_
                            have hji24v : x9_2 ≤ 64 → (IntKind.i64.wrap (2 ^ x9_2.toNat)) = ji24 := fun hle_ => by have h_ := hji24z hle_; rw [Int.one_mul] at h_; exact h_
                            have hji24y : (wrap64 (1 * 2 ^ min x9_2.toNat 64)) = ji24 := (i64_w _).symm.trans hji24_
                            have hji24x : x9_2 ≤ 64 → (wrap64 (1 * 2 ^ x9_2.toNat)) = ji24 := fun h_ => (i64_w _).symm.trans (hji24z h_)
                            have H' := Aside0.mk H
                            clear H
                            have p18 : 0 ≤ ((ji15) : Int) := of_decide_eq_true (by first | (with_reducible assumption) | assumption)
                            have q18 : (ji15) < (t199.size : Int) := of_decide_eq_true (by first | (with_reducible assumption) | assumption)
                            have hx18 := bt_at t199 (ji15)
                            replace p18 := eq_true p18
                            replace q18 := eq_true q18
                            go_wp2
                            go_roundg k2
                            case measure => have := HJ3.out; have := HK2.out; omega
                            case rel => exact ⟨(Go.bits .or .i64 x8_2 (ji24)), (wrap64 (x9_2 + 1)), (by first | rfl | (simp; done) | (simp only [← hji24] <;> (first | rfl | simp)) | (simp [*]; done)), (by first | rfl | (simp; done) | (simp [*]; done)), H', ⟨by have := HJ3.out; have := HK2.out; omega⟩, by repeat (first | exact Drawn0.refl _ | apply Drawn0.step)⟩
                          · rw [if_neg c23] at H
                            exact absurd H (by simp)
                        · rw [if_neg c22] at H
                          have c22b0 : ((Int.tmod (ji21) 2) == 1) = false := beq_eq_false_iff_ne.mpr c22
                          have c22b1 : ((Int.tmod (ji21) 2) != 1) = true := bne_iff_ne.mpr c22
                          have H' := Aside0.mk H
                          clear H
                          have p18 : 0 ≤ ((ji15) : Int) := of_decide_eq_true (by first | (with_reducible assumption) | assumption)
                          have q18 : (ji15) < (t199.size : Int) := of_decide_eq_true (by first | (with_reducible assumption) | assumption)
                          have hx18 := bt_at t199 (ji15)
                          replace p18 := eq_true p18
                          replace q18 := eq_true q18
                          go_wp2
                          go_roundg k2
                          case measure => have := HJ3.out; have := HK2.out; omega
                          case rel => exact ⟨(x8_2), (wrap64 (x9_2 + 1)), (by first | rfl | (simp; done) | (simp [*]; done)), (by first | rfl | (simp; done) | (simp [*]; done)), H', ⟨by have := HJ3.out; have := HK2.out; omega⟩, by repeat (first | exact Drawn0.refl _ | apply Drawn0.step)⟩
                      · rw [if_neg c20] at H
                        exact absurd H (by simp)
                    · rw [if_neg c17] at H
                      exact absurd H (by simp)
                  · rw [if_neg c16] at H
                    exact absurd H (by simp)
                · rw [if_neg c14] at H
                  have c14b0 : decide (x9_2 < (wrap64 ((wrap64 (8 * (t199.size : Int))) - t200))) = false := decide_eq_false c14
                  clear c14
                  simp only [Option.some.injEq, Prod.mk.injEq] at H
                  obtain ⟨rfl, rfl⟩ := H
                  go_wp2
                  go_ret2
                  exact ⟨by first | rfl | (simp; done) | (simp [*]; done), by repeat (first | exact Drawn0.refl _ | apply Drawn0.step)⟩
  · rw [if_neg c3] at H
    have c3b0 : (t201 == 0) = false := beq_eq_false_iff_ne.mpr c3
    have c3b1 : (t201 != 0) = true := bne_iff_ne.mpr c3
    simp only [Option.some.injEq, Prod.mk.injEq] at H
    obtain ⟨rfl, rfl⟩ := H
    go_enter Try.func23, Try.ntmps23
    go_wp2_with (first | ((with_reducible refine gate_callee (f := 19) rfl ?_); refine goesL_ (some 12) rfl rfl Try.func19 (by kernel_rfl) rfl #[.string a0] rfl (by (try simp only [List.map_toArray, List.map_cons, List.map_nil]); first | done | rfl | (simp only [List.length_drop, List.length_take]; rfl)) ?_; (with_reducible refine (certpathref01_Bits.calls a0 t199 t200 t201 _ A2.out).mono ?_); rintro e w' ⟨rfl, ⟨nd, rfl⟩⟩; refine ⟨_, rfl, ?_⟩))
    go_ret2
    exact ⟨by first | rfl | (simp; done) | (simp [*]; done), by repeat (first | exact Drawn0.refl _ | apply Drawn0.step)⟩

end Go.Proofs.Ytpiakeejfggocaa.Q
