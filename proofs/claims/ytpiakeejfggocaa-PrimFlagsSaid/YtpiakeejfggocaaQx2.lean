-- Written by a program of this session (wip/prn.py) out of the translation, for the seat Ytpiakeejfggocaa. Not trusted: Lean checks it.
import Derived.Test.YtpiakeejfggocaaQx0
namespace Go.Proofs.Ytpiakeejfggocaa.Q
open Go.RowKit Go.Proofs.YtpiakeejfggocaaW.PrintWords Go.Proofs.YtpiakeejfggocaaW.PrintLast Go.Proofs.YtpiakeejfggocaaW.PrintMore
attribute [local go_sem] max2_int min2_int max_two min_two max_three min_three max_four min_four   -- for this text's walks alone
set_option linter.unusedVariables false
set_option linter.unusedSimpArgs false

/-! ### prim_PutFlags: function 24 -/
mutual
def prim_PutFlags.j0 : Nat → Int → Bool → Option (ByteArray × Int)
  | 0, _, _ => none
  | k + 1, x0, x12 => if x12 = true then (some ((⟨#[]⟩ : ByteArray), 1)) else (prim_PutFlags.l0 k x0 0)
def prim_PutFlags.l0 : Nat → Int → Int → Option (ByteArray × Int)
  | 0, _, _ => none
  | k + 1, x0, x4 => if 0 ≤ (IntKind.u64.wrap (x4)) then (if (shr .i64 x0 (IntKind.u64.wrap (x4))) > 0 then (prim_PutFlags.l0 k x0 (wrap64 (x4 + 1))) else (if 0 ≤ (wrap64 (1 + (wrap64 (Int.tdiv (wrap64 (x4 + 7)) 8)))) then (if (wrap64 (1 + (wrap64 (Int.tdiv (wrap64 (x4 + 7)) 8))) : Int).toNat ≤ 281474976710656 then ((some (List.replicate (wrap64 (1 + (wrap64 (Int.tdiv (wrap64 (x4 + 7)) 8))) : Int).toNat 0 : List Int)).bind fun y104 => (if 0 < (y104.length : Int) then (prim_PutFlags.l1 k x0 (y104.set (0 : Int).toNat ((wrap64 ((wrap64 (8 * (wrap64 ((y104.length : Int) - 1)))) - x4)) % 256)) x4 0) else (none))) else (none)) else (none))) else (none)
def prim_PutFlags.l1 : Nat → Int → List Int → Int → Int → Option (ByteArray × Int)
  | 0, _, _, _, _ => none
  | k + 1, x0, x5, x34, x35 => if x35 < x34 then (if 0 ≤ (IntKind.u64.wrap (x35)) then (if (Go.bits .and .i64 (shr .i64 x0 (IntKind.u64.wrap (x35))) 1) = 1 then (if 0 ≤ (wrap64 (1 + (wrap64 (Int.tdiv x35 8)))) then (if (wrap64 (1 + (wrap64 (Int.tdiv x35 8)))) < (x5.length : Int) then (if 0 ≤ (IntKind.u64.wrap (7 - (IntKind.u64.wrap (Int.tmod x35 8)))) then (prim_PutFlags.l1 k x0 (x5.set ((wrap64 (1 + (wrap64 (Int.tdiv x35 8)))) : Int).toNat (Go.bits .or .u8 (rd x5 (wrap64 (1 + (wrap64 (Int.tdiv x35 8))))) (shl .u8 1 (IntKind.u64.wrap (7 - (IntKind.u64.wrap (Int.tmod x35 8))))))) x34 (wrap64 (x35 + 1))) else (none)) else (none)) else (none)) else (prim_PutFlags.l1 k x0 x5 x34 (wrap64 (x35 + 1)))) else (none)) else (some (strOfNums x5, 0))
end
def prim_PutFlags.f (k : Nat) (a0 : Int) : Option (ByteArray × Int) := if a0 < 0 then (prim_PutFlags.j0 k a0 true) else (prim_PutFlags.j0 k a0 (decide (a0 > 65535)))
theorem prim_PutFlags.mono_l : ∀ k, (∀ y0 y1, LeO (prim_PutFlags.j0 k y0 y1) (prim_PutFlags.j0 (k + 1) y0 y1)) ∧ (∀ y0 y1, LeO (prim_PutFlags.l0 k y0 y1) (prim_PutFlags.l0 (k + 1) y0 y1)) ∧ (∀ y0 y1 y2 y3, LeO (prim_PutFlags.l1 k y0 y1 y2 y3) (prim_PutFlags.l1 (k + 1) y0 y1 y2 y3))
  | 0 => ⟨fun _ _ r h => by simp [prim_PutFlags.j0] at h, fun _ _ r h => by simp [prim_PutFlags.l0] at h, fun _ _ _ _ r h => by simp [prim_PutFlags.l1] at h⟩
  | k + 1 => by
    obtain ⟨ih0, ih1, ih2⟩ := prim_PutFlags.mono_l k
    refine ⟨?_, ?_, ?_⟩
    · intro y0 y1
      unfold prim_PutFlags.j0
      repeat' first
      | (with_reducible exact ih0 _ _)
      | (with_reducible exact ih1 _ _)
      | (with_reducible exact ih2 _ _ _ _)
      | (with_reducible exact LeO.refl _)
      | (with_reducible exact LeO.none _)
      | (with_reducible refine LeO.ite ?_ ?_)
      | (with_reducible refine LeO.bind ?_ (fun _ => ?_))
      | exact ih0 _ _
      | exact ih1 _ _
      | exact ih2 _ _ _ _
      | exact LeO.none _
      | refine LeO.ite ?_ ?_
      | refine LeO.bind ?_ (fun _ => ?_)
    · intro y0 y1
      unfold prim_PutFlags.l0
      repeat' first
      | (with_reducible exact ih0 _ _)
      | (with_reducible exact ih1 _ _)
      | (with_reducible exact ih2 _ _ _ _)
      | (with_reducible exact LeO.refl _)
      | (with_reducible exact LeO.none _)
      | (with_reducible refine LeO.ite ?_ ?_)
      | (with_reducible refine LeO.bind ?_ (fun _ => ?_))
      | exact ih0 _ _
      | exact ih1 _ _
      | exact ih2 _ _ _ _
      | exact LeO.none _
      | refine LeO.ite ?_ ?_
      | refine LeO.bind ?_ (fun _ => ?_)
    · intro y0 y1 y2 y3
      unfold prim_PutFlags.l1
      repeat' first
      | (with_reducible exact ih0 _ _)
      | (with_reducible exact ih1 _ _)
      | (with_reducible exact ih2 _ _ _ _)
      | (with_reducible exact LeO.refl _)
      | (with_reducible exact LeO.none _)
      | (with_reducible refine LeO.ite ?_ ?_)
      | (with_reducible refine LeO.bind ?_ (fun _ => ?_))
      | exact ih0 _ _
      | exact ih1 _ _
      | exact ih2 _ _ _ _
      | exact LeO.none _
      | refine LeO.ite ?_ ?_
      | refine LeO.bind ?_ (fun _ => ?_)
theorem prim_PutFlags.mono : ∀ a0 k, LeO (prim_PutFlags.f k a0) (prim_PutFlags.f (k + 1) a0) := by
  intro a0 k
  obtain ⟨ih0, ih1, ih2⟩ := prim_PutFlags.mono_l k
  unfold prim_PutFlags.f
  repeat' first
      | (with_reducible exact ih0 _ _)
      | (with_reducible exact ih1 _ _)
      | (with_reducible exact ih2 _ _ _ _)
      | (with_reducible exact LeO.refl _)
      | (with_reducible exact LeO.none _)
      | (with_reducible refine LeO.ite ?_ ?_)
      | (with_reducible refine LeO.bind ?_ (fun _ => ?_))
      | exact ih0 _ _
      | exact ih1 _ _
      | exact ih2 _ _ _ _
      | exact LeO.none _
      | refine LeO.ite ?_ ?_
      | refine LeO.bind ?_ (fun _ => ?_)
set_option maxHeartbeats 8000000 in
set_option maxRecDepth 100000 in
theorem prim_PutFlags.calls (k : Nat) (a0 : Int) (r1 : ByteArray) (r2 : Int) (w : World) (h : prim_PutFlags.f k a0 = some (r1, r2)) :
    Calls Try.prog 24 #[.int .i64 a0] w fun e w' => e = .returned (.tuple #[.string r1, .int .i64 r2]) ∧ Below w.heap.size w w' := by
  have HB := Aside0.mk (Below.refl w.heap.size w)
  have H : (if a0 < 0 then (prim_PutFlags.j0 k a0 true) else (prim_PutFlags.j0 k a0 (decide (a0 > 65535)))) = some (r1, r2) := h
  clear h
  have HC2 := Aside0.mk H
  clear H
  go_enter Try.func24, Try.ntmps24
  go_upto_region 1 with (fail)
  go_cut [12] (fun v12 wc => ∃ (kq : Nat) (x12_1 : Bool), v12 = .bool x12_1 ∧ Aside0 (prim_PutFlags.j0 kq a0 x12_1 = some (r1, r2)) ∧ Aside0 (kq ≤ k) ∧ Aside0 (Below w.heap.size w wc))
  case first =>
    have H := HC2.out
    clear HC2
    by_cases c3 : a0 < 0
    · rw [if_pos c3] at H
      have c3b0 : decide (a0 < 0) = true := decide_eq_true c3
      clear c3
      (first | rw [c3b0] | (simp only [i64_w, i32_w]; rw [c3b0]) | skip)
      have H' := Aside0.mk H
      clear H
      go_wp2
      go_meet
      case rel => exact ⟨_, (true), (by first | rfl | (simp; done) | (simp [*]; done)), H', ⟨by first | omega | exact Nat.le_refl _⟩, ⟨by repeat (first | (with_reducible first | exact HB.out | apply below_alloc | apply pw_below_drewN | apply below_drew1) | exact HB.out)⟩⟩
    · rw [if_neg c3] at H
      have c3b0 : decide (a0 < 0) = false := decide_eq_false c3
      clear c3
      (first | rw [c3b0] | (simp only [i64_w, i32_w]; rw [c3b0]) | skip)
      have H' := Aside0.mk H
      clear H
      go_wp2
      go_meet
      case rel => exact ⟨_, (decide (a0 > 65535)), (by first | rfl | (simp; done) | (simp [*]; done)), H', ⟨by first | omega | exact Nat.le_refl _⟩, ⟨by repeat (first | (with_reducible first | exact HB.out | apply below_alloc | apply pw_below_drewN | apply below_drew1) | exact HB.out)⟩⟩
  case rest =>
    clear HC2
    try clear c2
    try clear p2
    try clear c3
    try clear c3b0
    obtain ⟨kq, x12_1, rfl, HA, HJ1, HB⟩ := hcut
    cases kq with
    | zero => exact absurd HA.out (by simp [prim_PutFlags.j0])
    | succ kj1 =>
      have H := HA.out
      clear HA
      simp only [prim_PutFlags.j0] at H
      by_cases c4 : x12_1 = true
      · subst c4
        have H1 : (some ((⟨#[]⟩ : ByteArray), 1)) = some (r1, r2) := by rw [if_pos rfl] at H; exact H
        clear H
        have H := H1
        clear H1
        simp only [Option.some.injEq, Prod.mk.injEq] at H
        obtain ⟨rfl, rfl⟩ := H
        go_wp2
        go_ret2
        exact ⟨by first | rfl | (simp [errW_none, errW_some] <;> rfl) | (simp [*, errW_none, errW_some] <;> rfl), by repeat (first | (with_reducible first | exact HB.out | apply below_alloc | apply pw_below_drewN | apply below_drew1) | exact HB.out)⟩
      · replace c4 := Bool.eq_false_iff.mpr c4
        subst c4
        have H1 : (prim_PutFlags.l0 kj1 a0 0) = some (r1, r2) := by rw [if_neg (show ¬ (false = true) by decide)] at H; exact H
        clear H
        have H := H1
        clear H1
        have H' := Aside0.mk H
        clear H
        go_wp2
        go_loopg [4] kj1 (fun kq v4 w' => ∃ (x4_2 : Int), v4 = .int .i64 x4_2 ∧ Aside0 (prim_PutFlags.l0 kq a0 x4_2 = some (r1, r2)) ∧ Aside0 (kq ≤ kj1) ∧ Aside0 (Below w.heap.size w w'))
        case atStart => exact ⟨(0), (by first | rfl | (simp; done) | (simp [*]; done)), H', ⟨Nat.le_refl _⟩, ⟨by repeat (first | (with_reducible first | exact HB.out | apply below_alloc | apply pw_below_drewN | apply below_drew1) | exact HB.out)⟩⟩
        case round =>
          clear H'
          try clear c2
          try clear p2
          try clear c3
          try clear c3b0
          try clear c4
          try clear p2
          obtain ⟨x4_2, rfl, HA, HK2, HB⟩ := hrel
          cases gk with
          | zero => exact absurd HA.out (by simp [prim_PutFlags.l0])
          | succ k2 =>
            have H := HA.out
            clear HA
            simp only [prim_PutFlags.l0] at H
            obtain ⟨ji5, hji5⟩ : ∃ j_ : Int, (IntKind.u64.wrap (x4_2)) = j_ := ⟨_, rfl⟩
            replace H : (if 0 ≤ (ji5) then (if (shr .i64 a0 (ji5)) > 0 then (prim_PutFlags.l0 k2 a0 (wrap64 (x4_2 + 1))) else (if 0 ≤ (wrap64 (1 + (wrap64 (Int.tdiv (wrap64 (x4_2 + 7)) 8)))) then (if (wrap64 (1 + (wrap64 (Int.tdiv (wrap64 (x4_2 + 7)) 8))) : Int).toNat ≤ 281474976710656 then ((some (List.replicate (wrap64 (1 + (wrap64 (Int.tdiv (wrap64 (x4_2 + 7)) 8))) : Int).toNat 0 : List Int)).bind fun y104 => (if 0 < (y104.length : Int) then (prim_PutFlags.l1 k2 a0 (y104.set (0 : Int).toNat ((wrap64 ((wrap64 (8 * (wrap64 ((y104.length : Int) - 1)))) - x4_2)) % 256)) x4_2 0) else (none))) else (none)) else (none))) else (none)) = some (r1, r2) := by first | (rw [hji5] at H; exact H) | (simp only [hji5] at H ⊢; exact H)
            by_cases c6 : 0 ≤ (ji5)
            · rw [if_pos c6] at H
              have c6b0 := eq_true c6
              have c6b1 : decide (0 ≤ (ji5)) = true := decide_eq_true c6
              clear c6
              obtain ⟨ji7, hji7⟩ : ∃ j_ : Int, (shr .i64 a0 (ji5)) = j_ := ⟨_, rfl⟩
              replace H : (if (ji7) > 0 then (prim_PutFlags.l0 k2 a0 (wrap64 (x4_2 + 1))) else (if 0 ≤ (wrap64 (1 + (wrap64 (Int.tdiv (wrap64 (x4_2 + 7)) 8)))) then (if (wrap64 (1 + (wrap64 (Int.tdiv (wrap64 (x4_2 + 7)) 8))) : Int).toNat ≤ 281474976710656 then ((some (List.replicate (wrap64 (1 + (wrap64 (Int.tdiv (wrap64 (x4_2 + 7)) 8))) : Int).toNat 0 : List Int)).bind fun y104 => (if 0 < (y104.length : Int) then (prim_PutFlags.l1 k2 a0 (y104.set (0 : Int).toNat ((wrap64 ((wrap64 (8 * (wrap64 ((y104.length : Int) - 1)))) - x4_2)) % 256)) x4_2 0) else (none))) else (none)) else (none))) = some (r1, r2) := by first | (rw [hji7] at H; exact H) | (simp only [hji7] at H ⊢; exact H)
              have hji7_ : (a0 / 2 ^ min (ji5).toNat 64) = ji7 := hji7
              have hji7z : (ji5) ≤ 64 → (a0 / 2 ^ (ji5).toNat) = ji7 := shr_small hji7
              by_cases c8 : (ji7) > 0
              · rw [if_pos c8] at H
                have c8b0 : decide (0 < (ji7)) = true := decide_eq_true c8
                clear c8
                have H' := Aside0.mk H
                clear H
                go_wp2
                go_roundg k2
                case measure => have := HJ1.out; have := HK2.out; omega
                case rel => exact ⟨(wrap64 (x4_2 + 1)), (by first | rfl | (simp; done) | (simp [*]; done)), H', ⟨by have := HJ1.out; have := HK2.out; omega⟩, ⟨by repeat (first | (with_reducible first | exact HB.out | apply below_alloc | apply pw_below_drewN | apply below_drew1) | exact HB.out)⟩⟩
              · rw [if_neg c8] at H
                have c8b0 : decide (0 < (ji7)) = false := decide_eq_false c8
                clear c8
                obtain ⟨ji9, hji9⟩ : ∃ j_ : Int, (wrap64 (1 + (wrap64 (Int.tdiv (wrap64 (x4_2 + 7)) 8)))) = j_ := ⟨_, rfl⟩
                replace H : (if 0 ≤ (ji9) then (if (ji9 : Int).toNat ≤ 281474976710656 then ((some (List.replicate (ji9 : Int).toNat 0 : List Int)).bind fun y104 => (if 0 < (y104.length : Int) then (prim_PutFlags.l1 k2 a0 (y104.set (0 : Int).toNat ((wrap64 ((wrap64 (8 * (wrap64 ((y104.length : Int) - 1)))) - x4_2)) % 256)) x4_2 0) else (none))) else (none)) else (none)) = some (r1, r2) := by first | (rw [hji9] at H; exact H) | (simp only [hji9] at H ⊢; exact H)
                have hji9w : (IntKind.i64.wrap (1 + (wrap64 (Int.tdiv (wrap64 (x4_2 + 7)) 8)))) = ji9 := (i64_w _).trans hji9
                by_cases c10 : 0 ≤ (ji9)
                · rw [if_pos c10] at H
                  have c10b0 := eq_true c10
                  have c10b1 : decide (0 ≤ (ji9)) = true := decide_eq_true c10
                  clear c10
                  by_cases c11 : (ji9 : Int).toNat ≤ 281474976710656
                  · rw [if_pos c11] at H
                    have c11b0 := eq_true c11
                    have c11b1 : decide ((ji9 : Int).toNat ≤ 281474976710656) = true := decide_eq_true c11
                    clear c11
                    obtain ⟨y104, hy104⟩ : ∃ y_ : List Int, y_ = (List.replicate (ji9 : Int).toNat 0) := ⟨_, rfl⟩
                    replace H : (if 0 < (y104.length : Int) then (prim_PutFlags.l1 k2 a0 (y104.set (0 : Int).toNat ((wrap64 ((wrap64 (8 * (wrap64 ((y104.length : Int) - 1)))) - x4_2)) % 256)) x4_2 0) else (none)) = some (r1, r2) := by first | (rw [hy104]; with_reducible exact H) | (have H2_ := (Option.bind_some _ _).symm.trans H; rw [hy104]; with_reducible exact H2_) | (have H2_ := (Option.bind_some _ _).symm.trans H; with_reducible exact H2_) | with_reducible exact H | (rw [hy104]; exact H) | exact H
                    have Ny104 := Aside0.mk hy104
                    clear hy104
                    by_cases c12 : 0 < (y104.length : Int)
                    · rw [if_pos c12] at H
                      have c12b0 : decide (0 < (y104.length : Int)) = true := decide_eq_true c12
                      have c12b1 : decide (0 < y104.length) = true := decide_eq_true (by omega)
                      clear c12
                      obtain ⟨y107, hy107⟩ : ∃ y_ : List Int, y_ = (y104.set (0 : Int).toNat ((wrap64 ((wrap64 (8 * (wrap64 ((y104.length : Int) - 1)))) - x4_2)) % 256)) := ⟨_, rfl⟩
                      replace H : (prim_PutFlags.l1 k2 a0 y107 x4_2 0) = some (r1, r2) := by first | (rw [hy107]; with_reducible exact H) | (have H2_ := (Option.bind_some _ _).symm.trans H; rw [hy107]; with_reducible exact H2_) | (have H2_ := (Option.bind_some _ _).symm.trans H; with_reducible exact H2_) | with_reducible exact H | (rw [hy107]; exact H) | exact H
                      have Ny107 := Aside0.mk hy107
                      clear hy107
                      have H' := Aside0.mk H
                      clear H
                      go_wp2_with (first | ((with_reducible refine gate_dst (N := 24) rfl ?_); refine Kd.R_make (Kd.int .u8) _ 5 rfl (N := 24) rfl 42 _ _ rfl ji9 rfl rfl Try.underlying42 (.int .u8 0) 1 info5 rfl (by decide) (by omega) 0 (ok := fun _ => True) (okp := fun _ => True) rfl (fun _ hk => hk) trivial (of_decide_eq_true (by first | (with_reducible assumption) | assumption)) (Nat.le_trans (Nat.mul_le_mul_right _ (of_decide_eq_true (by first | (with_reducible assumption) | assumption) : ji9.toNat ≤ 281474976710656)) (by omega)) (Below.refl _ _) (Nat.le_refl _) ?_; intro v105 w14 ho15 hb hg_ hnew_; clear hg_ hnew_; (first | rw [← Ny104.out] at ho15 | (simp only [Int.reduceToNat] at ho15; rw [← Ny104.out] at ho15)); have n0_ := Aside0.mk (Kd.R_lower ho15 (below_size (by repeat (first | (with_reducible first | exact HB.out | apply below_alloc | apply pw_below_drewN | apply below_drew1) | exact HB.out)))); have n1_ := Aside0.mk (below_step (by repeat (first | (with_reducible first | exact HB.out | apply below_alloc | apply pw_below_drewN | apply below_drew1) | exact HB.out)) hb); clear HB; have HO106 := n0_; have HB := n1_; clear n0_ n1_; clear hb ho15; obtain ⟨Ao16, co16, eo16⟩ := Kd.R_slice HO106.out; subst eo16; have p13 : 0 ≤ (0 : Int) := (by omega); have q13 : (0 : Int) < ((y104.length : Int) : Int) := of_decide_eq_true (by first | (with_reducible assumption) | assumption); have qi13 : (0 < y104.length) = True := eq_true (by omega); obtain ⟨go13, co13, eo13, gb13, gl13, cl13, HG13⟩ := Kd.R_form HO106.out (by omega); (first | cases eo13 | (injection eo13 with ea_ en_ ec_; (first | subst ea_ | (injection ea_ with ea_; subst ea_)); subst ec_; clear en_)); have GB13 := Aside0.mk gb13; have GG13 := Aside0.mk HG13; clear gb13 gl13 HG13; obtain ⟨hx13_0, hf13_0⟩ := Kd.R_celln 0 HO106.out (0 : Int) p13 q13; (try rw [show ((0 : Int)).toNat = 0 from rfl] at hx13_0); (try simp only [Nat.reduceMul, Nat.zero_mul, Nat.zero_add, Nat.reduceAdd] at hx13_0); (try rw [show ((0 : Int)).toNat = 0 from rfl] at hf13_0); (try simp only [Nat.reduceMul, Nat.zero_mul, Nat.zero_add, Nat.reduceAdd] at hf13_0); replace p13 := eq_true p13; replace q13 := eq_true q13; obtain ⟨hy17_, hz17_⟩ := Kd.R_celln 0 HO106.out (0 : Int) (by omega) (of_decide_eq_true (by first | (with_reducible assumption) | assumption)); (try simp only [Int.reduceToNat, Int.toNat_zero, Int.toNat_ofNat, Nat.reduceMul, Nat.zero_mul, Nat.zero_add] at hy17_ hz17_); (try rw [show ((0 : Int)).toNat = 0 from rfl] at hy17_); (try rw [show ((0 : Int)).toNat = 0 from rfl] at hz17_); have HP17 := Kd.R_putg HO106.out (0 : Int) ((wrap64 ((wrap64 (8 * (wrap64 ((y104.length : Int) - 1)))) - x4_2)) % 256)) | ((with_reducible refine gate_store (t := 5) (p := 33) rfl ?_); refine store_event (t := 5) (p := 33) (v := ?vo_w18) (w1 := (w14.setCell ⟨go13, (0 : Int).toNat, none⟩ (.int .u8 ((wrap64 ((wrap64 (8 * (wrap64 ((y104.length : Int) - 1)))) - x4_2)) % 256)))) ?hg ?ho ?hn ?hr ?_; (case ho => rfl); (case hg => rfl); (case hn => rfl); (case hr => first | (go_simp; done) | (go_simp; rfl)); intro w18 hw; have hg : w14.grownBy w18 (some go13) := (by rw [hw]; exact HP17.2); have hp_ : Kd.R (Kd.int .u8) 5 w18 w.heap.size (fun _ => True) (.slice (some ⟨go13, 0, none⟩) y104.length co16) y107 := (by rw [hw, Ny107.out]; exact HP17.1); clear HP17; have n0_ := Aside0.mk (hp_); have n1_ := Aside0.mk ((by rw [hw]; exact below_set (HB.out) GB13.out : Below w.heap.size w w18)); clear HO106; clear HB; have HO106 := n0_; have HB := n1_; clear n0_ n1_; clear hg hw hp_))
                      go_loopg [35] k2 (fun kq v35 w' => ∃ (x5_3 : List Int) (x35_3 : Int), v35 = .int .i64 x35_3 ∧ Aside0 (prim_PutFlags.l1 kq a0 x5_3 x4_2 x35_3 = some (r1, r2)) ∧ Aside0 (kq ≤ k2) ∧ Aside0 (Kd.R (Kd.int .u8) 5 w' w.heap.size (fun _ => True) (.slice (some ⟨go13, 0, none⟩) y104.length co16) x5_3) ∧ Aside0 (Below w.heap.size w w'))
                      case atStart => exact ⟨(y107), (0), (by first | rfl | (simp; done) | (simp [*]; done)), H', ⟨Nat.le_refl _⟩, ⟨by (with_reducible repeat (first | apply Kd.R_alloc | apply Kd.R_drewN | apply Kd.R_drew)); exact HO106.out⟩, ⟨by repeat (first | (with_reducible first | exact HB.out | apply below_alloc | apply pw_below_drewN | apply below_drew1) | exact HB.out)⟩⟩
                      case round =>
                        clear H'
                        try clear c1
                        try clear p1
                        try clear q1
                        try clear hx1
                        try clear qi1
                        try clear hf1
                        try clear c2
                        try clear p2
                        try clear c3
                        try clear c3b0
                        try clear c4
                        try clear c6
                        try clear c6b0
                        try clear c6b1
                        try clear p6
                        try clear c8
                        try clear c8b0
                        try clear c10
                        try clear c10b0
                        try clear c10b1
                        try clear c11
                        try clear c11b0
                        try clear c11b1
                        try clear c12
                        try clear c12b0
                        try clear c12b1
                        try clear p13
                        try clear q13
                        try clear hx13
                        try clear qi13
                        try clear hf13
                        try clear hx13_0
                        try clear p13
                        try clear p2
                        try clear q13
                        obtain ⟨x5_3, x35_3, rfl, HA, HK3, HO_5, HB⟩ := hrel
                        have hl5_3 := (Kd.R_reads' HO_5.out).1
                        rw [hl5_3] at HO_5
                        (try simp only [hl5_3])
                        cases gk with
                        | zero => exact absurd HA.out (by simp [prim_PutFlags.l1])
                        | succ k3 =>
                          have H := HA.out
                          clear HA
                          simp only [prim_PutFlags.l1] at H
                          by_cases c19 : x35_3 < x4_2
                          · rw [if_pos c19] at H
                            have c19b0 : decide (x35_3 < x4_2) = true := decide_eq_true c19
                            clear c19
                            obtain ⟨ji20, hji20⟩ : ∃ j_ : Int, (IntKind.u64.wrap (x35_3)) = j_ := ⟨_, rfl⟩
                            replace H : (if 0 ≤ (ji20) then (if (Go.bits .and .i64 (shr .i64 a0 (ji20)) 1) = 1 then (if 0 ≤ (wrap64 (1 + (wrap64 (Int.tdiv x35_3 8)))) then (if (wrap64 (1 + (wrap64 (Int.tdiv x35_3 8)))) < (x5_3.length : Int) then (if 0 ≤ (IntKind.u64.wrap (7 - (IntKind.u64.wrap (Int.tmod x35_3 8)))) then (prim_PutFlags.l1 k3 a0 (x5_3.set ((wrap64 (1 + (wrap64 (Int.tdiv x35_3 8)))) : Int).toNat (Go.bits .or .u8 (rd x5_3 (wrap64 (1 + (wrap64 (Int.tdiv x35_3 8))))) (shl .u8 1 (IntKind.u64.wrap (7 - (IntKind.u64.wrap (Int.tmod x35_3 8))))))) x4_2 (wrap64 (x35_3 + 1))) else (none)) else (none)) else (none)) else (prim_PutFlags.l1 k3 a0 x5_3 x4_2 (wrap64 (x35_3 + 1)))) else (none)) = some (r1, r2) := by first | (rw [hji20] at H; exact H) | (simp only [hji20] at H ⊢; exact H)
                            by_cases c21 : 0 ≤ (ji20)
                            · rw [if_pos c21] at H
                              have c21b0 := eq_true c21
                              have c21b1 : decide (0 ≤ (ji20)) = true := decide_eq_true c21
                              clear c21
                              obtain ⟨ji22, hji22⟩ : ∃ j_ : Int, (shr .i64 a0 (ji20)) = j_ := ⟨_, rfl⟩
                              replace H : (if (Go.bits .and .i64 (ji22) 1) = 1 then (if 0 ≤ (wrap64 (1 + (wrap64 (Int.tdiv x35_3 8)))) then (if (wrap64 (1 + (wrap64 (Int.tdiv x35_3 8)))) < (x5_3.length : Int) then (if 0 ≤ (IntKind.u64.wrap (7 - (IntKind.u64.wrap (Int.tmod x35_3 8)))) then (prim_PutFlags.l1 k3 a0 (x5_3.set ((wrap64 (1 + (wrap64 (Int.tdiv x35_3 8)))) : Int).toNat (Go.bits .or .u8 (rd x5_3 (wrap64 (1 + (wrap64 (Int.tdiv x35_3 8))))) (shl .u8 1 (IntKind.u64.wrap (7 - (IntKind.u64.wrap (Int.tmod x35_3 8))))))) x4_2 (wrap64 (x35_3 + 1))) else (none)) else (none)) else (none)) else (prim_PutFlags.l1 k3 a0 x5_3 x4_2 (wrap64 (x35_3 + 1)))) = some (r1, r2) := by first | (rw [hji22] at H; exact H) | (simp only [hji22] at H ⊢; exact H)
                              have hji22_ : (a0 / 2 ^ min (ji20).toNat 64) = ji22 := hji22
                              have hji22z : (ji20) ≤ 64 → (a0 / 2 ^ (ji20).toNat) = ji22 := shr_small hji22
                              by_cases c23 : (Go.bits .and .i64 (ji22) 1) = 1
                              · rw [if_pos c23] at H
                                have c23b0 : ((Go.bits .and .i64 (ji22) 1) == 1) = true := beq_iff_eq.mpr c23
                                have c23b1 : ((Go.bits .and .i64 (ji22) 1) != 1) = false := bne_eq_false_iff_eq.mpr c23
                                clear c23
                                obtain ⟨ji24, hji24⟩ : ∃ j_ : Int, (wrap64 (1 + (wrap64 (Int.tdiv x35_3 8)))) = j_ := ⟨_, rfl⟩
                                replace H : (if 0 ≤ (ji24) then (if (ji24) < (x5_3.length : Int) then (if 0 ≤ (IntKind.u64.wrap (7 - (IntKind.u64.wrap (Int.tmod x35_3 8)))) then (prim_PutFlags.l1 k3 a0 (x5_3.set ((ji24) : Int).toNat (Go.bits .or .u8 (rd x5_3 (ji24)) (shl .u8 1 (IntKind.u64.wrap (7 - (IntKind.u64.wrap (Int.tmod x35_3 8))))))) x4_2 (wrap64 (x35_3 + 1))) else (none)) else (none)) else (none)) = some (r1, r2) := by first | (rw [hji24] at H; exact H) | (simp only [hji24] at H ⊢; exact H)
                                have hji24w : (IntKind.i64.wrap (1 + (wrap64 (Int.tdiv x35_3 8)))) = ji24 := (i64_w _).trans hji24
                                by_cases c25 : 0 ≤ (ji24)
                                · rw [if_pos c25] at H
                                  have c25b0 : decide (0 ≤ (ji24)) = true := decide_eq_true c25
                                  clear c25
                                  by_cases c26 : (ji24) < (x5_3.length : Int)
                                  · rw [if_pos c26] at H
                                    have c26b0 : decide ((ji24) < (x5_3.length : Int)) = true := decide_eq_true c26
                                    clear c26
                                    obtain ⟨ji27, hji27⟩ : ∃ j_ : Int, (IntKind.u64.wrap (7 - (IntKind.u64.wrap (Int.tmod x35_3 8)))) = j_ := ⟨_, rfl⟩
                                    replace H : (if 0 ≤ (ji27) then (prim_PutFlags.l1 k3 a0 (x5_3.set ((ji24) : Int).toNat (Go.bits .or .u8 (rd x5_3 (ji24)) (shl .u8 1 (ji27)))) x4_2 (wrap64 (x35_3 + 1))) else (none)) = some (r1, r2) := by first | (rw [hji27] at H; exact H) | (simp only [hji27] at H ⊢; exact H)
                                    by_cases c28 : 0 ≤ (ji27)
                                    · rw [if_pos c28] at H
                                      have c28b0 := eq_true c28
                                      have c28b1 : decide (0 ≤ (ji27)) = true := decide_eq_true c28
                                      clear c28
                                      obtain ⟨ji29, hji29⟩ : ∃ j_ : Int, (shl .u8 1 (ji27)) = j_ := ⟨_, rfl⟩
                                      replace H : (prim_PutFlags.l1 k3 a0 (x5_3.set ((ji24) : Int).toNat (Go.bits .or .u8 (rd x5_3 (ji24)) (ji29))) x4_2 (wrap64 (x35_3 + 1))) = some (r1, r2) := by first | (rw [hji29] at H; exact H) | (simp only [hji29] at H ⊢; exact H)
                                      have hji29_ : (IntKind.u8.wrap (1 * 2 ^ min (ji27).toNat 8)) = ji29 := hji29
                                      have hji29z : (ji27) ≤ 8 → (IntKind.u8.wrap (1 * 2 ^ (ji27).toNat)) = ji29 := shl_small hji29
                                      have hji29u : (IntKind.u8.wrap (2 ^ min (ji27).toNat 8)) = ji29 := by have h_ := hji29_; rw [Int.one_mul] at h_; exact h_
                                      have hji29v : (ji27) ≤ 8 → (IntKind.u8.wrap (2 ^ (ji27).toNat)) = ji29 := fun hle_ => by have h_ := hji29z hle_; rw [Int.one_mul] at h_; exact h_
                                      obtain ⟨y109, hy109⟩ : ∃ y_ : List Int, y_ = (x5_3.set ((ji24) : Int).toNat (Go.bits .or .u8 (rd x5_3 (ji24)) (ji29))) := ⟨_, rfl⟩
                                      replace H : (prim_PutFlags.l1 k3 a0 y109 x4_2 (wrap64 (x35_3 + 1))) = some (r1, r2) := by first | (rw [hy109]; with_reducible exact H) | (have H2_ := (Option.bind_some _ _).symm.trans H; rw [hy109]; with_reducible exact H2_) | (have H2_ := (Option.bind_some _ _).symm.trans H; with_reducible exact H2_) | with_reducible exact H | (rw [hy109]; exact H) | exact H
                                      have Ny109 := Aside0.mk hy109
                                      clear hy109
                                      have H' := Aside0.mk H
                                      clear H
                                      have p108 : 0 ≤ ((ji24) : Int) := of_decide_eq_true (by first | (with_reducible assumption) | assumption)
                                      have q108 : (ji24) < (x5_3.length : Int) := of_decide_eq_true (by first | (with_reducible assumption) | assumption)
                                      obtain ⟨ad108, e108, hx108_0⟩ := Kd.at_int (Kd.R_reads' HO_5.out).2.2 (ji24) p108 q108
                                      obtain rfl : (⟨go13, 0, none⟩ : Addr) = ad108 := (by injection e108)
                                      (first | simp only [add_plain] at hx108_0 | simp only [add_at] at hx108_0 | simp only [Addr.add, Nat.zero_add] at hx108_0 | skip)
                                      replace p108 := eq_true p108
                                      replace q108 := eq_true q108
                                      have p30 : 0 ≤ ((ji24) : Int) := of_decide_eq_true (by first | (with_reducible assumption) | assumption)
                                      have q30 : ((ji24) : Int) < ((x5_3.length : Int) : Int) := of_decide_eq_true (by first | (with_reducible assumption) | assumption)
                                      obtain ⟨hx30_0, hf30_0⟩ := Kd.R_celln 0 HO_5.out ((ji24) : Int) p30 q30
                                      replace p30 := eq_true p30
                                      replace q30 := eq_true q30
                                      have HP31 := Kd.R_putg HO_5.out ((ji24) : Int) (Go.bits .or .u8 (rd x5_3 (ji24)) (ji29))
                                      go_wp2_with (first | ((with_reducible refine gate_store (t := 5) (p := 56) rfl ?_); refine store_event (t := 5) (p := 56) (v := ?vo_w32) (w1 := (wr.setCell ⟨go13, ((ji24) : Int).toNat, none⟩ (.int .u8 (Go.bits .or .u8 (rd x5_3 (ji24)) (ji29))))) ?hg ?ho ?hn ?hr ?_; (case ho => rfl); (case hg => rfl); (case hn => rfl); (case hr => first | (go_simp; done) | (go_simp; rfl)); intro w32 hw; have hg : wr.grownBy w32 (some go13) := (by rw [hw]; exact HP31.2); have hp_ : Kd.R (Kd.int .u8) 5 w32 w.heap.size (fun _ => True) (.slice (some ⟨go13, 0, none⟩) x5_3.length co16) y109 := (by rw [hw, Ny109.out]; exact HP31.1); clear HP31; have n0_ := Aside0.mk (hp_); have n1_ := Aside0.mk ((by rw [hw]; exact below_set (HB.out) GB13.out : Below w.heap.size w w32)); clear HO_5; clear HB; have HO_5 := n0_; have HB := n1_; clear n0_ n1_; clear hg hw hp_))
                                      (try simp only [← hl5_3])
                                      go_roundg k3
                                      case measure => have := HJ1.out; have := HK2.out; have := HK3.out; omega
                                      case rel => exact ⟨(y109), (wrap64 (x35_3 + 1)), (by first | rfl | (simp; done) | (simp [*]; done)), H', ⟨by have := HJ1.out; have := HK2.out; have := HK3.out; omega⟩, ⟨by (try simp only [hl5_3]); (with_reducible repeat (first | apply Kd.R_alloc | apply Kd.R_drewN | apply Kd.R_drew)); exact HO_5.out⟩, ⟨by repeat (first | (with_reducible first | exact HB.out | apply below_alloc | apply pw_below_drewN | apply below_drew1) | exact HB.out)⟩⟩
                                    · rw [if_neg c28] at H
                                      exact absurd H (by simp)
                                  · rw [if_neg c26] at H
                                    exact absurd H (by simp)
                                · rw [if_neg c25] at H
                                  exact absurd H (by simp)
                              · rw [if_neg c23] at H
                                have c23b0 : ((Go.bits .and .i64 (ji22) 1) == 1) = false := beq_eq_false_iff_ne.mpr c23
                                have c23b1 : ((Go.bits .and .i64 (ji22) 1) != 1) = true := bne_iff_ne.mpr c23
                                have H' := Aside0.mk H
                                clear H
                                go_wp2
                                (try simp only [← hl5_3])
                                go_roundg k3
                                case measure => have := HJ1.out; have := HK2.out; have := HK3.out; omega
                                case rel => exact ⟨(x5_3), (wrap64 (x35_3 + 1)), (by first | rfl | (simp; done) | (simp [*]; done)), H', ⟨by have := HJ1.out; have := HK2.out; have := HK3.out; omega⟩, ⟨by (try simp only [hl5_3]); (with_reducible repeat (first | apply Kd.R_alloc | apply Kd.R_drewN | apply Kd.R_drew)); exact HO_5.out⟩, ⟨by repeat (first | (with_reducible first | exact HB.out | apply below_alloc | apply pw_below_drewN | apply below_drew1) | exact HB.out)⟩⟩
                            · rw [if_neg c21] at H
                              exact absurd H (by simp)
                          · rw [if_neg c19] at H
                            have c19b0 : decide (x35_3 < x4_2) = false := decide_eq_false c19
                            clear c19
                            simp only [Option.some.injEq, Prod.mk.injEq] at H
                            obtain ⟨rfl, rfl⟩ := H
                            have hcv33 := own_string (P := Try.prog) Try.underlying42 Try.underlying5 Try.underlying9 (Kd.own_of_R HO_5.out)
                            go_wp2
                            go_ret2
                            exact ⟨by first | rfl | (simp [errW_none, errW_some] <;> rfl) | (simp only [← hji5, ← hji7, ← hji9]; first | rfl | (simp [errW_none, errW_some] <;> rfl)) | (simp [*, errW_none, errW_some] <;> rfl), by repeat (first | (with_reducible first | exact HB.out | apply below_alloc | apply pw_below_drewN | apply below_drew1) | exact HB.out)⟩
                    · rw [if_neg c12] at H
                      exact absurd H (by simp)
                  · rw [if_neg c11] at H
                    exact absurd H (by simp)
                · rw [if_neg c10] at H
                  exact absurd H (by simp)
            · rw [if_neg c6] at H
              exact absurd H (by simp)

end Go.Proofs.Ytpiakeejfggocaa.Q
