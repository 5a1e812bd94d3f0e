-- Written by a program of this session (wip/prn.py) out of the translation, for the seat Ytpiakeejfggocaa. Not trusted: Lean checks it.
import Derived.Test.YtpiakeejfggocaaQx0
import Derived.Test.YtpiakeejfggocaaQx11
import Derived.Test.YtpiakeejfggocaaQx16
namespace Go.Proofs.Ytpiakeejfggocaa.Q
open Go.RowKit Go.Proofs.YtpiakeejfggocaaW.PrintWords Go.Proofs.YtpiakeejfggocaaW.PrintLast Go.Proofs.YtpiakeejfggocaaW.PrintMore
attribute [local go_sem] max2_int min2_int max_two min_two max_three min_three max_four min_four   -- for this text's walks alone
set_option linter.unusedVariables false
set_option linter.unusedSimpArgs false

/-! ### prim_Flags: function 22 -/
mutual
def prim_Flags.j0 : Nat → ByteArray → Int → Bool → Option (Int × Int)
  | 0, _, _, _ => none
  | k + 1, x4, x7, x32 => if x32 = true then (some (0, 7)) else (if x7 > 16 then (some (0, 1)) else (prim_Flags.l0 k x4 0 x7 0))
def prim_Flags.l0 : Nat → ByteArray → Int → Int → Int → Option (Int × Int)
  | 0, _, _, _, _ => none
  | k + 1, x4, x8, x35, x36 => if x36 < x35 then ((prim_bit.f x4 x36).bind fun t198 => (if t198 = true then (if 0 ≤ (IntKind.u64.wrap (x36)) then (prim_Flags.l0 k x4 (Go.bits .or .i64 x8 (shl .i64 1 (IntKind.u64.wrap (x36)))) x35 (wrap64 (x36 + 1))) else (none)) else (prim_Flags.l0 k x4 x8 x35 (wrap64 (x36 + 1))))) else (some (x8, 0))
end
def prim_Flags.f (k : Nat) (a0 : ByteArray) : Option (Int × Int) := (prim_Bits.f a0).bind fun bt194 => (if bt194.2.2 = 0 then (if (wrap64 ((wrap64 (8 * (bt194.1.size : Int))) - bt194.2.1)) > 0 then ((prim_bit.f bt194.1 (wrap64 ((wrap64 ((wrap64 (8 * (bt194.1.size : Int))) - bt194.2.1)) - 1))).bind fun t197 => (prim_Flags.j0 k bt194.1 (wrap64 ((wrap64 (8 * (bt194.1.size : Int))) - bt194.2.1)) (!t197))) else (prim_Flags.j0 k bt194.1 (wrap64 ((wrap64 (8 * (bt194.1.size : Int))) - bt194.2.1)) false)) else (some (0, bt194.2.2)))
theorem prim_Flags.mono_l : ∀ k, (∀ y0 y1 y2, LeO (prim_Flags.j0 k y0 y1 y2) (prim_Flags.j0 (k + 1) y0 y1 y2)) ∧ (∀ y0 y1 y2 y3, LeO (prim_Flags.l0 k y0 y1 y2 y3) (prim_Flags.l0 (k + 1) y0 y1 y2 y3))
  | 0 => ⟨fun _ _ _ r h => by simp [prim_Flags.j0] at h, fun _ _ _ _ r h => by simp [prim_Flags.l0] at h⟩
  | k + 1 => by
    obtain ⟨ih0, ih1⟩ := prim_Flags.mono_l k
    refine ⟨?_, ?_⟩
    · intro y0 y1 y2
      unfold prim_Flags.j0
      repeat' first
      | (with_reducible exact ih0 _ _ _)
      | (with_reducible exact ih1 _ _ _ _)
      | (with_reducible exact LeO.refl _)
      | (with_reducible exact LeO.none _)
      | (with_reducible refine LeO.ite ?_ ?_)
      | (with_reducible refine LeO.bind ?_ (fun _ => ?_))
      | exact ih0 _ _ _
      | exact ih1 _ _ _ _
      | exact LeO.none _
      | refine LeO.ite ?_ ?_
      | refine LeO.bind ?_ (fun _ => ?_)
    · intro y0 y1 y2 y3
      unfold prim_Flags.l0
      repeat' first
      | (with_reducible exact ih0 _ _ _)
      | (with_reducible exact ih1 _ _ _ _)
      | (with_reducible exact LeO.refl _)
      | (with_reducible exact LeO.none _)
      | (with_reducible refine LeO.ite ?_ ?_)
      | (with_reducible refine LeO.bind ?_ (fun _ => ?_))
      | exact ih0 _ _ _
      | exact ih1 _ _ _ _
      | exact LeO.none _
      | refine LeO.ite ?_ ?_
      | refine LeO.bind ?_ (fun _ => ?_)
theorem prim_Flags.mono : ∀ a0 k, LeO (prim_Flags.f k a0) (prim_Flags.f (k + 1) a0) := by
  intro a0 k
  obtain ⟨ih0, ih1⟩ := prim_Flags.mono_l k
  unfold prim_Flags.f
  repeat' first
      | (with_reducible exact ih0 _ _ _)
      | (with_reducible exact ih1 _ _ _ _)
      | (with_reducible exact LeO.refl _)
      | (with_reducible exact LeO.none _)
      | (with_reducible refine LeO.ite ?_ ?_)
      | (with_reducible refine LeO.bind ?_ (fun _ => ?_))
      | exact ih0 _ _ _
      | exact ih1 _ _ _ _
      | exact LeO.none _
      | refine LeO.ite ?_ ?_
      | refine LeO.bind ?_ (fun _ => ?_)
set_option maxHeartbeats 8000000 in
set_option maxRecDepth 100000 in
theorem prim_Flags.calls (k : Nat) (a0 : ByteArray) (r1 : Int) (r2 : Int) (w : World) (h : prim_Flags.f k a0 = some (r1, r2)) :
    Calls Try.prog 22 #[.string a0] w fun e w' => e = .returned (.tuple #[.int .i64 r1, .int .i64 r2]) ∧ Drawn0 w w' := by
  have H : ((prim_Bits.f a0).bind fun bt194 => (if bt194.2.2 = 0 then (if (wrap64 ((wrap64 (8 * (bt194.1.size : Int))) - bt194.2.1)) > 0 then ((prim_bit.f bt194.1 (wrap64 ((wrap64 ((wrap64 (8 * (bt194.1.size : Int))) - bt194.2.1)) - 1))).bind fun t197 => (prim_Flags.j0 k bt194.1 (wrap64 ((wrap64 (8 * (bt194.1.size : Int))) - bt194.2.1)) (!t197))) else (prim_Flags.j0 k bt194.1 (wrap64 ((wrap64 (8 * (bt194.1.size : Int))) - bt194.2.1)) false)) else (some (0, bt194.2.2)))) = some (r1, r2) := h
  clear h
  replace H := Option.bind_eq_some_iff.mp H
  obtain ⟨⟨t194, t195, t196⟩, A20, H⟩ := H
  replace H : (if t196 = 0 then (if (wrap64 ((wrap64 (8 * (t194.size : Int))) - t195)) > 0 then ((prim_bit.f t194 (wrap64 ((wrap64 ((wrap64 (8 * (t194.size : Int))) - t195)) - 1))).bind fun t197 => (prim_Flags.j0 k t194 (wrap64 ((wrap64 (8 * (t194.size : Int))) - t195)) (!t197))) else (prim_Flags.j0 k t194 (wrap64 ((wrap64 (8 * (t194.size : Int))) - t195)) false)) else (some (0, t196))) = some (r1, r2) := H
  have A2 := Aside0.mk A20
  clear A20
  by_cases c3 : t196 = 0
  · rw [if_pos c3] at H
    have c3b0 : (t196 == 0) = true := beq_iff_eq.mpr c3
    have c3b1 : (t196 != 0) = false := bne_eq_false_iff_eq.mpr c3
    clear c3
    have HC4 := Aside0.mk H
    clear H
    go_enter Try.func22, Try.ntmps22
    go_upto_region 5 with (first | ((with_reducible refine gate_callee (f := 18) rfl ?_); refine goesL_ (some 12) rfl rfl Try.func18 (by kernel_rfl) rfl #[.string a0] rfl (by (try simp only [List.map_toArray, List.map_cons, List.map_nil]); first | done | rfl | (simp only [List.length_drop, List.length_take]; rfl)) ?_; (with_reducible refine (prim_Bits.calls a0 t194 t195 t196 _ A2.out).mono ?_); rintro e w' ⟨rfl, ⟨nd, rfl⟩⟩; refine ⟨_, rfl, ?_⟩))
    (try simp only [Act.put, List.setIfInBounds_toArray, List.set_cons_zero, List.set_cons_succ])
    go_cut [32] (fun v32 wc => ∃ (kq : Nat) (x32_3 : Bool), v32 = .bool x32_3 ∧ Aside0 (prim_Flags.j0 kq t194 (wrap64 ((wrap64 (8 * (t194.size : Int))) - t195)) x32_3 = some (r1, r2)) ∧ Aside0 (kq ≤ k) ∧ Drawn0 w wc)
    case first =>
      have H := HC4.out
      clear HC4
      by_cases c5 : (wrap64 ((wrap64 (8 * (t194.size : Int))) - t195)) > 0
      · rw [if_pos c5] at H
        have c5b0 : decide (0 < (wrap64 ((wrap64 (8 * (t194.size : Int))) - t195))) = true := decide_eq_true c5
        clear c5
        (first | rw [c5b0] | (simp only [i64_w, i32_w]; rw [c5b0]) | skip)
        replace H := Option.bind_eq_some_iff.mp H
        obtain ⟨t197, A60, H⟩ := H
        replace H : (prim_Flags.j0 k t194 (wrap64 ((wrap64 (8 * (t194.size : Int))) - t195)) (!t197)) = some (r1, r2) := H
        have A6 := Aside0.mk A60
        clear A60
        have H' := Aside0.mk H
        clear H
        go_wp2_with (first | (go_at_call 27; (with_reducible refine (prim_bit.calls t194 (wrap64 ((wrap64 ((wrap64 (8 * (t194.size : Int))) - t195)) - 1)) t197 _ A6.out).mono ?_); rintro e w' ⟨rfl, ⟨nd, rfl⟩⟩))
        go_meet
        case rel => exact ⟨_, (!t197), (by first | rfl | (simp; done) | (simp [*]; done)), H', ⟨by first | omega | exact Nat.le_refl _⟩, by repeat (first | exact Drawn0.refl _ | apply Drawn0.step)⟩
      · rw [if_neg c5] at H
        have c5b0 : decide (0 < (wrap64 ((wrap64 (8 * (t194.size : Int))) - t195))) = false := decide_eq_false c5
        clear c5
        (first | rw [c5b0] | (simp only [i64_w, i32_w]; rw [c5b0]) | skip)
        have H' := Aside0.mk H
        clear H
        go_wp2
        go_meet
        case rel => exact ⟨_, (false), (by first | rfl | (simp; done) | (simp [*]; done)), H', ⟨by first | omega | exact Nat.le_refl _⟩, by repeat (first | exact Drawn0.refl _ | apply Drawn0.step)⟩
    case rest =>
      clear HC4
      try clear c1
      try clear c2
      try clear p2
      try clear c3
      try clear c3b0
      try clear c3b1
      try clear c5
      try clear c5b0
      try clear p6
      obtain ⟨kq, x32_3, rfl, HA, HJ3, ⟨mc3, rfl⟩⟩ := hcut
      cases kq with
      | zero => exact absurd HA.out (by simp [prim_Flags.j0])
      | succ kj3 =>
        have H := HA.out
        clear HA
        simp only [prim_Flags.j0] at H
        by_cases c7 : x32_3 = true
        · subst c7
          have H1 : (some (0, 7)) = some (r1, r2) := by rw [if_pos rfl] at H; exact H
          clear H
          have H := H1
          clear H1
          simp only [Option.some.injEq, Prod.mk.injEq] at H
          obtain ⟨rfl, rfl⟩ := H
          go_wp2
          go_ret2
          exact ⟨by first | rfl | (simp; done) | (simp [*]; done), by repeat (first | exact Drawn0.refl _ | apply Drawn0.step)⟩
        · replace c7 := Bool.eq_false_iff.mpr c7
          subst c7
          have H1 : (if (wrap64 ((wrap64 (8 * (t194.size : Int))) - t195)) > 16 then (some (0, 1)) else (prim_Flags.l0 kj3 t194 0 (wrap64 ((wrap64 (8 * (t194.size : Int))) - t195)) 0)) = some (r1, r2) := by rw [if_neg (show ¬ (false = true) by decide)] at H; exact H
          clear H
          have H := H1
          clear H1
          by_cases c8 : (wrap64 ((wrap64 (8 * (t194.size : Int))) - t195)) > 16
          · rw [if_pos c8] at H
            have c8b0 : decide (16 < (wrap64 ((wrap64 (8 * (t194.size : Int))) - t195))) = true := decide_eq_true c8
            clear c8
            simp only [Option.some.injEq, Prod.mk.injEq] at H
            obtain ⟨rfl, rfl⟩ := H
            go_wp2
            go_ret2
            exact ⟨by first | rfl | (simp; done) | (simp [*]; done), by repeat (first | exact Drawn0.refl _ | apply Drawn0.step)⟩
          · rw [if_neg c8] at H
            have c8b0 : decide (16 < (wrap64 ((wrap64 (8 * (t194.size : Int))) - t195))) = false := decide_eq_false c8
            clear c8
            have H' := Aside0.mk H
            clear H
            go_wp2
            go_loopg [8, 36] kj3 (fun kq v8 v36 w' => ∃ (x8_2 : Int) (x36_2 : Int), v8 = .int .i64 x8_2 ∧ v36 = .int .i64 x36_2 ∧ Aside0 (prim_Flags.l0 kq t194 x8_2 (wrap64 ((wrap64 (8 * (t194.size : Int))) - t195)) x36_2 = some (r1, r2)) ∧ Aside0 (kq ≤ kj3) ∧ Drawn0 w w')
            case atStart => exact ⟨(0), (0), (by first | rfl | (simp; done) | (simp [*]; done)), (by first | rfl | (simp; done) | (simp [*]; done)), H', ⟨Nat.le_refl _⟩, by repeat (first | exact Drawn0.refl _ | apply Drawn0.step)⟩
            case round =>
              clear H'
              try clear c1
              try clear c2
              try clear p2
              try clear c3
              try clear c3b0
              try clear c3b1
              try clear c5
              try clear c5b0
              try clear p6
              try clear c7
              try clear c8
              try clear c8b0
              try clear p2
              try clear p6
              obtain ⟨x8_2, x36_2, rfl, rfl, HA, HK2, ⟨m2, rfl⟩⟩ := hrel
              cases gk with
              | zero => exact absurd HA.out (by simp [prim_Flags.l0])
              | succ k2 =>
                have H := HA.out
                clear HA
                simp only [prim_Flags.l0] at H
                by_cases c9 : x36_2 < (wrap64 ((wrap64 (8 * (t194.size : Int))) - t195))
                · rw [if_pos c9] at H
                  have c9b0 : decide (x36_2 < (wrap64 ((wrap64 (8 * (t194.size : Int))) - t195))) = true := decide_eq_true c9
                  clear c9
                  replace H := Option.bind_eq_some_iff.mp H
                  obtain ⟨t198, A100, H⟩ := H
                  replace H : (if t198 = true then (if 0 ≤ (IntKind.u64.wrap (x36_2)) then (prim_Flags.l0 k2 t194 (Go.bits .or .i64 x8_2 (shl .i64 1 (IntKind.u64.wrap (x36_2)))) (wrap64 ((wrap64 (8 * (t194.size : Int))) - t195)) (wrap64 (x36_2 + 1))) else (none)) else (prim_Flags.l0 k2 t194 x8_2 (wrap64 ((wrap64 (8 * (t194.size : Int))) - t195)) (wrap64 (x36_2 + 1)))) = some (r1, r2) := H
                  have A10 := Aside0.mk A100
                  clear A100
                  by_cases c11 : t198 = true
                  · subst c11
                    have H1 : (if 0 ≤ (IntKind.u64.wrap (x36_2)) then (prim_Flags.l0 k2 t194 (Go.bits .or .i64 x8_2 (shl .i64 1 (IntKind.u64.wrap (x36_2)))) (wrap64 ((wrap64 (8 * (t194.size : Int))) - t195)) (wrap64 (x36_2 + 1))) else (none)) = some (r1, r2) := by rw [if_pos rfl] at H; exact H
                    clear H
                    have H := H1
                    clear H1
                    obtain ⟨ji12, hji12⟩ : ∃ j_ : Int, (IntKind.u64.wrap (x36_2)) = j_ := ⟨_, rfl⟩
                    replace H : (if 0 ≤ (ji12) then (prim_Flags.l0 k2 t194 (Go.bits .or .i64 x8_2 (shl .i64 1 (ji12))) (wrap64 ((wrap64 (8 * (t194.size : Int))) - t195)) (wrap64 (x36_2 + 1))) else (none)) = some (r1, r2) := by first | (rw [hji12] at H; exact H) | (simp only [hji12] at H ⊢; exact H)
                    (try rw [hji12] at A10)
                    by_cases c13 : 0 ≤ (ji12)
                    · rw [if_pos c13] at H
                      have c13b0 := eq_true c13
                      have c13b1 : decide (0 ≤ (ji12)) = true := decide_eq_true c13
                      clear c13
                      obtain ⟨ji14, hji14⟩ : ∃ j_ : Int, (shl .i64 1 (ji12)) = j_ := ⟨_, rfl⟩
                      replace H : (prim_Flags.l0 k2 t194 (Go.bits .or .i64 x8_2 (ji14)) (wrap64 ((wrap64 (8 * (t194.size : Int))) - t195)) (wrap64 (x36_2 + 1))) = some (r1, r2) := by first | (rw [hji14] at H; exact H) | (simp only [hji14] at H ⊢; exact H)
                      (try rw [hji14] at A10)
                      have hji14_ : (IntKind.i64.wrap (1 * 2 ^ min (ji12).toNat 64)) = ji14 := hji14
                      have hji14z : (ji12) ≤ 64 → (IntKind.i64.wrap (1 * 2 ^ (ji12).toNat)) = ji14 := shl_small hji14
                      have hji14u : (IntKind.i64.wrap (2 ^ min (ji12).toNat 64)) = ji14 := by have h_ := hji14_; rw [Int.one_mul] at h_; exact h_
                      have hji14v : (ji12) ≤ 64 → (IntKind.i64.wrap (2 ^ (ji12).toNat)) = ji14 := fun hle_ => by have h_ := hji14z hle_; rw [Int.one_mul] at h_; exact h_
                      have hji14y : (wrap64 (1 * 2 ^ min (ji12).toNat 64)) = ji14 := (i64_w _).symm.trans hji14_
                      have hji14x : (ji12) ≤ 64 → (wrap64 (1 * 2 ^ (ji12).toNat)) = ji14 := fun h_ => (i64_w _).symm.trans (hji14z h_)
                      have H' := Aside0.mk H
                      clear H
                      go_wp2_with (first | ((with_reducible refine gate_callee (f := 27) rfl ?_); refine goesL_ (some 41) rfl rfl Try.func27 (by kernel_rfl) rfl #[.string t194, .int .i64 x36_2] rfl (by (try simp only [List.map_toArray, List.map_cons, List.map_nil]); first | done | rfl | (simp only [List.length_drop, List.length_take]; rfl)) ?_; (with_reducible refine (prim_bit.calls t194 x36_2 true _ A10.out).mono ?_); rintro e w' ⟨rfl, ⟨nd, rfl⟩⟩; refine ⟨_, rfl, ?_⟩))
                      go_roundg k2
                      case measure => have := HJ3.out; have := HK2.out; omega
                      case rel => exact ⟨(Go.bits .or .i64 x8_2 (ji14)), (wrap64 (x36_2 + 1)), (by first | rfl | (simp; done) | (simp only [← hji14] <;> (first | rfl | simp)) | (simp [*]; done)), (by first | rfl | (simp; done) | (simp [*]; done)), H', ⟨by have := HJ3.out; have := HK2.out; omega⟩, by repeat (first | exact Drawn0.refl _ | apply Drawn0.step)⟩
                    · rw [if_neg c13] at H
                      exact absurd H (by simp)
                  · replace c11 := Bool.eq_false_iff.mpr c11
                    subst c11
                    have H1 : (prim_Flags.l0 k2 t194 x8_2 (wrap64 ((wrap64 (8 * (t194.size : Int))) - t195)) (wrap64 (x36_2 + 1))) = some (r1, r2) := by rw [if_neg (show ¬ (false = true) by decide)] at H; exact H
                    clear H
                    have H := H1
                    clear H1
                    have H' := Aside0.mk H
                    clear H
                    go_wp2_with (first | ((with_reducible refine gate_callee (f := 27) rfl ?_); refine goesL_ (some 41) rfl rfl Try.func27 (by kernel_rfl) rfl #[.string t194, .int .i64 x36_2] rfl (by (try simp only [List.map_toArray, List.map_cons, List.map_nil]); first | done | rfl | (simp only [List.length_drop, List.length_take]; rfl)) ?_; (with_reducible refine (prim_bit.calls t194 x36_2 false _ A10.out).mono ?_); rintro e w' ⟨rfl, ⟨nd, rfl⟩⟩; refine ⟨_, rfl, ?_⟩))
                    go_roundg k2
                    case measure => have := HJ3.out; have := HK2.out; omega
                    case rel => exact ⟨(x8_2), (wrap64 (x36_2 + 1)), (by first | rfl | (simp; done) | (simp [*]; done)), (by first | rfl | (simp; done) | (simp [*]; done)), H', ⟨by have := HJ3.out; have := HK2.out; omega⟩, by repeat (first | exact Drawn0.refl _ | apply Drawn0.step)⟩
                · rw [if_neg c9] at H
                  have c9b0 : decide (x36_2 < (wrap64 ((wrap64 (8 * (t194.size : Int))) - t195))) = false := decide_eq_false c9
                  clear c9
                  simp only [Option.some.injEq, Prod.mk.injEq] at H
                  obtain ⟨rfl, rfl⟩ := H
                  go_wp2
                  go_ret2
                  exact ⟨by first | rfl | (simp; done) | (simp [*]; done), by repeat (first | exact Drawn0.refl _ | apply Drawn0.step)⟩
  · rw [if_neg c3] at H
    have c3b0 : (t196 == 0) = false := beq_eq_false_iff_ne.mpr c3
    have c3b1 : (t196 != 0) = true := bne_iff_ne.mpr c3
    simp only [Option.some.injEq, Prod.mk.injEq] at H
    obtain ⟨rfl, rfl⟩ := H
    go_enter Try.func22, Try.ntmps22
    go_wp2_with (first | ((with_reducible refine gate_callee (f := 18) rfl ?_); refine goesL_ (some 12) rfl rfl Try.func18 (by kernel_rfl) rfl #[.string a0] rfl (by (try simp only [List.map_toArray, List.map_cons, List.map_nil]); first | done | rfl | (simp only [List.length_drop, List.length_take]; rfl)) ?_; (with_reducible refine (prim_Bits.calls a0 t194 t195 t196 _ A2.out).mono ?_); rintro e w' ⟨rfl, ⟨nd, rfl⟩⟩; refine ⟨_, rfl, ?_⟩))
    go_ret2
    exact ⟨by first | rfl | (simp; done) | (simp [*]; done), by repeat (first | exact Drawn0.refl _ | apply Drawn0.step)⟩

end Go.Proofs.Ytpiakeejfggocaa.Q
