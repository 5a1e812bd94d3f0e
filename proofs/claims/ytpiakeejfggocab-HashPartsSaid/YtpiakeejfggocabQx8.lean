-- Written by a program of this session (wip/prn.py) out of the translation, for the seat Ytpiakeejfggocab. Not trusted: Lean checks it.
import Derived.Test.YtpiakeejfggocabQx0
import Derived.Test.YtpiakeejfggocabQx7
namespace Go.Proofs.Ytpiakeejfggocab.Q
open Go.RowKit Go.Proofs.YtpiakeejfggocabW.PrintWords Go.Proofs.YtpiakeejfggocabW.PrintLast Go.Proofs.YtpiakeejfggocabW.PrintMore
attribute [local go_sem] max2_int min2_int max_two min_two max_three min_three max_four min_four   -- for this text's walks alone
set_option linter.unusedVariables false
set_option linter.unusedSimpArgs false

/-! ### certpathref01_Sum: function 11 -/
mutual
def certpathref01_Sum.l0 : Nat → ByteArray → List ByteArray → Int → Int → Option (ByteArray)
  | 0, _, _, _, _ => none
  | k + 1, x3, x15, x16, x17 => if x17 < x16 then (if 0 ≤ x17 then (if x17 < (x15.length : Int) then (if x3.size + (rdOf ByteArray.empty x15 x17).size ≤ 9223372036854775807 then (certpathref01_Sum.l0 k (x3 ++ (rdOf ByteArray.empty x15 x17)) x15 x16 (wrap64 (x17 + 1))) else (none)) else (none)) else (none)) else ((some (([1779033703, 3144134277, 1013904242, 2773480762, 1359893119, 2600822924, 528734635, 1541459225] : List Int) : List Int)).bind fun y208 => (if (wrap64 (64 - (Int.tmod (wrap64 ((x3.size : Int) + 9)) 64))) = 64 then (certpathref01_Sum.j1 k x3 y208 (x3.size : Int) 0) else (certpathref01_Sum.j1 k x3 y208 (x3.size : Int) (wrap64 (64 - (Int.tmod (wrap64 ((x3.size : Int) + 9)) 64))))))
def certpathref01_Sum.j1 : Nat → ByteArray → List Int → Int → Int → Option (ByteArray)
  | 0, _, _, _, _ => none
  | k + 1, x3, x6, x7, x8 => if 0 ≤ (wrap64 (9 + x8)) then (if (wrap64 (9 + x8) : Int).toNat ≤ 281474976710656 then ((some (List.replicate (wrap64 (9 + x8) : Int).toNat 0 : List Int)).bind fun y211 => (if 0 < (y211.length : Int) then (certpathref01_Sum.l1 k x3 x6 x7 (y211.set (0 : Int).toNat 128) 0) else (none))) else (none)) else (none)
def certpathref01_Sum.l1 : Nat → ByteArray → List Int → Int → List Int → Int → Option (ByteArray)
  | 0, _, _, _, _, _ => none
  | k + 1, x3, x6, x7, x9, x10 => if x10 < 8 then (if 0 ≤ (wrap64 (8 * x10)) then (if 0 ≤ (wrap64 ((wrap64 ((x9.length : Int) - 1)) - x10)) then (if (wrap64 ((wrap64 ((x9.length : Int) - 1)) - x10)) < (x9.length : Int) then (certpathref01_Sum.l1 k x3 x6 x7 (x9.set ((wrap64 ((wrap64 ((x9.length : Int) - 1)) - x10)) : Int).toNat ((shr .i64 (wrap64 (8 * x7)) (wrap64 (8 * x10))) % 256)) (wrap64 (x10 + 1))) else (none)) else (none)) else (none)) else (if x3.size + (strOfNums x9).size ≤ 9223372036854775807 then (certpathref01_Sum.l2 k (x3 ++ (strOfNums x9)) x6 0) else (none))
def certpathref01_Sum.l2 : Nat → ByteArray → List Int → Int → Option (ByteArray)
  | 0, _, _, _ => none
  | k + 1, x3, x6, x11 => if x11 < (x3.size : Int) then (if 0 ≤ x11 then (if x11 ≤ (wrap64 (x11 + 64)) then (if (wrap64 (x11 + 64)) ≤ (x3.size : Int) then ((certpathref01_round.f k x6 (x3.extract (x11 : Int).toNat ((wrap64 (x11 + 64)) : Int).toNat)).bind fun t216 => (certpathref01_Sum.l2 k x3 t216 (wrap64 (x11 + 64)))) else (none)) else (none)) else (none)) else (certpathref01_Sum.l3 k (([] : List Int)) x6 (x6.length : Int) 0)
def certpathref01_Sum.l3 : Nat → List Int → List Int → Int → Int → Option (ByteArray)
  | 0, _, _, _, _ => none
  | k + 1, x12, x74, x75, x76 => if x76 < x75 then (if 0 ≤ x76 then (if x76 < (x74.length : Int) then ((some (([((rd x74 x76) / 16777216) % 256, ((rd x74 x76) / 65536) % 256, ((rd x74 x76) / 256) % 256, (rd x74 x76) % 256] : List Int) : List Int)).bind fun y223 => (if x12.length + y223.length < 140737488355328 then (certpathref01_Sum.l3 k (x12 ++ y223) x74 x75 (wrap64 (x76 + 1))) else (none))) else (none)) else (none)) else (some (strOfNums x12))
end
def certpathref01_Sum.f (k : Nat) (l0 : List ByteArray) : Option (ByteArray) := certpathref01_Sum.l0 k (⟨#[]⟩ : ByteArray) l0 (l0.length : Int) 0
theorem certpathref01_Sum.mono_l : ∀ k, (∀ y0 y1 y2 y3, LeO (certpathref01_Sum.l0 k y0 y1 y2 y3) (certpathref01_Sum.l0 (k + 1) y0 y1 y2 y3)) ∧ (∀ y0 y1 y2 y3, LeO (certpathref01_Sum.j1 k y0 y1 y2 y3) (certpathref01_Sum.j1 (k + 1) y0 y1 y2 y3)) ∧ (∀ y0 y1 y2 y3 y4, LeO (certpathref01_Sum.l1 k y0 y1 y2 y3 y4) (certpathref01_Sum.l1 (k + 1) y0 y1 y2 y3 y4)) ∧ (∀ y0 y1 y2, LeO (certpathref01_Sum.l2 k y0 y1 y2) (certpathref01_Sum.l2 (k + 1) y0 y1 y2)) ∧ (∀ y0 y1 y2 y3, LeO (certpathref01_Sum.l3 k y0 y1 y2 y3) (certpathref01_Sum.l3 (k + 1) y0 y1 y2 y3))
  | 0 => ⟨fun _ _ _ _ r h => by simp [certpathref01_Sum.l0] at h, fun _ _ _ _ r h => by simp [certpathref01_Sum.j1] at h, fun _ _ _ _ _ r h => by simp [certpathref01_Sum.l1] at h, fun _ _ _ r h => by simp [certpathref01_Sum.l2] at h, fun _ _ _ _ r h => by simp [certpathref01_Sum.l3] at h⟩
  | k + 1 => by
    obtain ⟨ih0, ih1, ih2, ih3, ih4⟩ := certpathref01_Sum.mono_l k
    refine ⟨?_, ?_, ?_, ?_, ?_⟩
    · intro y0 y1 y2 y3
      unfold certpathref01_Sum.l0
      repeat' first
      | (with_reducible exact ih0 _ _ _ _)
      | (with_reducible exact ih1 _ _ _ _)
      | (with_reducible exact ih2 _ _ _ _ _)
      | (with_reducible exact ih3 _ _ _)
      | (with_reducible exact ih4 _ _ _ _)
      | (with_reducible exact certpathref01_round.mono _ _ _)
      | (with_reducible exact LeO.refl _)
      | (with_reducible exact LeO.none _)
      | (with_reducible refine LeO.ite ?_ ?_)
      | (with_reducible refine LeO.bind ?_ (fun _ => ?_))
      | exact ih0 _ _ _ _
      | exact ih1 _ _ _ _
      | exact ih2 _ _ _ _ _
      | exact ih3 _ _ _
      | exact ih4 _ _ _ _
      | exact certpathref01_round.mono _ _ _
      | exact LeO.none _
      | refine LeO.ite ?_ ?_
      | refine LeO.bind ?_ (fun _ => ?_)
    · intro y0 y1 y2 y3
      unfold certpathref01_Sum.j1
      repeat' first
      | (with_reducible exact ih0 _ _ _ _)
      | (with_reducible exact ih1 _ _ _ _)
      | (with_reducible exact ih2 _ _ _ _ _)
      | (with_reducible exact ih3 _ _ _)
      | (with_reducible exact ih4 _ _ _ _)
      | (with_reducible exact certpathref01_round.mono _ _ _)
      | (with_reducible exact LeO.refl _)
      | (with_reducible exact LeO.none _)
      | (with_reducible refine LeO.ite ?_ ?_)
      | (with_reducible refine LeO.bind ?_ (fun _ => ?_))
      | exact ih0 _ _ _ _
      | exact ih1 _ _ _ _
      | exact ih2 _ _ _ _ _
      | exact ih3 _ _ _
      | exact ih4 _ _ _ _
      | exact certpathref01_round.mono _ _ _
      | exact LeO.none _
      | refine LeO.ite ?_ ?_
      | refine LeO.bind ?_ (fun _ => ?_)
    · intro y0 y1 y2 y3 y4
      unfold certpathref01_Sum.l1
      repeat' first
      | (with_reducible exact ih0 _ _ _ _)
      | (with_reducible exact ih1 _ _ _ _)
      | (with_reducible exact ih2 _ _ _ _ _)
      | (with_reducible exact ih3 _ _ _)
      | (with_reducible exact ih4 _ _ _ _)
      | (with_reducible exact certpathref01_round.mono _ _ _)
      | (with_reducible exact LeO.refl _)
      | (with_reducible exact LeO.none _)
      | (with_reducible refine LeO.ite ?_ ?_)
      | (with_reducible refine LeO.bind ?_ (fun _ => ?_))
      | exact ih0 _ _ _ _
      | exact ih1 _ _ _ _
      | exact ih2 _ _ _ _ _
      | exact ih3 _ _ _
      | exact ih4 _ _ _ _
      | exact certpathref01_round.mono _ _ _
      | exact LeO.none _
      | refine LeO.ite ?_ ?_
      | refine LeO.bind ?_ (fun _ => ?_)
    · intro y0 y1 y2
      unfold certpathref01_Sum.l2
      repeat' first
      | (with_reducible exact ih0 _ _ _ _)
      | (with_reducible exact ih1 _ _ _ _)
      | (with_reducible exact ih2 _ _ _ _ _)
      | (with_reducible exact ih3 _ _ _)
      | (with_reducible exact ih4 _ _ _ _)
      | (with_reducible exact certpathref01_round.mono _ _ _)
      | (with_reducible exact LeO.refl _)
      | (with_reducible exact LeO.none _)
      | (with_reducible refine LeO.ite ?_ ?_)
      | (with_reducible refine LeO.bind ?_ (fun _ => ?_))
      | exact ih0 _ _ _ _
      | exact ih1 _ _ _ _
      | exact ih2 _ _ _ _ _
      | exact ih3 _ _ _
      | exact ih4 _ _ _ _
      | exact certpathref01_round.mono _ _ _
      | exact LeO.none _
      | refine LeO.ite ?_ ?_
      | refine LeO.bind ?_ (fun _ => ?_)
    · intro y0 y1 y2 y3
      unfold certpathref01_Sum.l3
      repeat' first
      | (with_reducible exact ih0 _ _ _ _)
      | (with_reducible exact ih1 _ _ _ _)
      | (with_reducible exact ih2 _ _ _ _ _)
      | (with_reducible exact ih3 _ _ _)
      | (with_reducible exact ih4 _ _ _ _)
      | (with_reducible exact certpathref01_round.mono _ _ _)
      | (with_reducible exact LeO.refl _)
      | (with_reducible exact LeO.none _)
      | (with_reducible refine LeO.ite ?_ ?_)
      | (with_reducible refine LeO.bind ?_ (fun _ => ?_))
      | exact ih0 _ _ _ _
      | exact ih1 _ _ _ _
      | exact ih2 _ _ _ _ _
      | exact ih3 _ _ _
      | exact ih4 _ _ _ _
      | exact certpathref01_round.mono _ _ _
      | exact LeO.none _
      | refine LeO.ite ?_ ?_
      | refine LeO.bind ?_ (fun _ => ?_)
theorem certpathref01_Sum.mono : ∀ a0 k, LeO (certpathref01_Sum.f k a0) (certpathref01_Sum.f (k + 1) a0) := by
  intro a0 k
  obtain ⟨ih0, ih1, ih2, ih3, ih4⟩ := certpathref01_Sum.mono_l k
  unfold certpathref01_Sum.f
  repeat' first
      | (with_reducible exact ih0 _ _ _ _)
      | (with_reducible exact ih1 _ _ _ _)
      | (with_reducible exact ih2 _ _ _ _ _)
      | (with_reducible exact ih3 _ _ _)
      | (with_reducible exact ih4 _ _ _ _)
      | (with_reducible exact certpathref01_round.mono _ _ _)
      | (with_reducible exact LeO.refl _)
      | (with_reducible exact LeO.none _)
      | (with_reducible refine LeO.ite ?_ ?_)
      | (with_reducible refine LeO.bind ?_ (fun _ => ?_))
      | exact ih0 _ _ _ _
      | exact ih1 _ _ _ _
      | exact ih2 _ _ _ _ _
      | exact ih3 _ _ _
      | exact ih4 _ _ _ _
      | exact certpathref01_round.mono _ _ _
      | exact LeO.none _
      | refine LeO.ite ?_ ?_
      | refine LeO.bind ?_ (fun _ => ?_)
set_option maxHeartbeats 8000000 in
set_option maxRecDepth 100000 in
theorem certpathref01_Sum.calls (k : Nat) (A0 : Option Addr) (c0 : Nat) (l0 : List ByteArray) (r : ByteArray) (w : World) (hr0 : Kd.C Kd.string w A0 l0.length l0) (hc0 : l0.length ≤ c0) (h : certpathref01_Sum.f k l0 = some r) :
    Calls Try.prog 11 #[.slice A0 l0.length c0] w fun e w' => e = .returned (.string r) ∧ Below w.heap.size w w' := by
  have HR0 := Aside0.mk hr0
  have HC0 := Aside0.mk hc0
  clear hr0 hc0
  have HB := Aside0.mk (Below.refl w.heap.size w)
  have H : (certpathref01_Sum.l0 k (⟨#[]⟩ : ByteArray) l0 (l0.length : Int) 0) = some r := h
  clear h
  have H' := Aside0.mk H
  clear H
  go_enter Try.func11, Try.ntmps11
  go_wp2
  go_loopg [3, 17] k (fun kq v3 v17 w' => ∃ (x3_1 : ByteArray) (x17_1 : Int), v3 = .string x3_1 ∧ v17 = .int .i64 x17_1 ∧ Aside0 (certpathref01_Sum.l0 kq x3_1 l0 (l0.length : Int) x17_1 = some r) ∧ Aside0 (kq ≤ k) ∧ Aside0 (Below w.heap.size w w'))
  case atStart => exact ⟨((⟨#[]⟩ : ByteArray)), (0), (by first | rfl | (simp; done) | (simp [*]; done)), (by first | rfl | (simp; done) | (simp [*]; done)), H', ⟨Nat.le_refl _⟩, ⟨by repeat (first | (with_reducible first | exact HB.out | apply below_alloc | apply pw_below_drewN | apply below_drew1) | exact HB.out)⟩⟩
  case round =>
    clear H'
    try clear c1
    obtain ⟨x3_1, x17_1, rfl, rfl, HA, HK1, HB⟩ := hrel
    cases gk with
    | zero => exact absurd HA.out (by simp [certpathref01_Sum.l0])
    | succ k1 =>
      have H := HA.out
      clear HA
      simp only [certpathref01_Sum.l0] at H
      by_cases c2 : x17_1 < (l0.length : Int)
      · rw [if_pos c2] at H
        have c2b0 : decide (x17_1 < (l0.length : Int)) = true := decide_eq_true c2
        clear c2
        by_cases c3 : 0 ≤ x17_1
        · rw [if_pos c3] at H
          have c3b0 : decide (0 ≤ x17_1) = true := decide_eq_true c3
          clear c3
          by_cases c4 : x17_1 < (l0.length : Int)
          · rw [if_pos c4] at H
            have c4b0 : decide (x17_1 < (l0.length : Int)) = true := decide_eq_true c4
            clear c4
            by_cases c5 : x3_1.size + (rdOf ByteArray.empty l0 x17_1).size ≤ 9223372036854775807
            · rw [if_pos c5] at H
              have c5b0 := eq_true c5
              have c5b1 : decide (x3_1.size + (rdOf ByteArray.empty l0 x17_1).size ≤ 9223372036854775807) = true := decide_eq_true c5
              try have c5b2 : (9223372036854775807 < x3_1.size + (rdOf ByteArray.empty l0 x17_1).size) = False := eq_false (Nat.not_lt.2 c5)
              have H' := Aside0.mk H
              clear H
              have p207 : 0 ≤ (x17_1 : Int) := of_decide_eq_true (by first | (with_reducible assumption) | assumption)
              have q207 : x17_1 < (l0.length : Int) := of_decide_eq_true (by first | (with_reducible assumption) | assumption)
              obtain ⟨ad207, e207, hx207_0⟩ := Kd.at_string HR0.out x17_1 p207 q207
              cases e207
              replace hx207_0 := (HB.out.cell (World.block_lt_of_cell? w _ hx207_0)).trans hx207_0
              replace p207 := eq_true p207
              replace q207 := eq_true q207
              go_wp2
              go_roundg k1
              case measure => have := HK1.out; omega
              case rel => exact ⟨(x3_1 ++ (rdOf ByteArray.empty l0 x17_1)), (wrap64 (x17_1 + 1)), (by first | rfl | (simp; done) | (simp [*]; done)), (by first | rfl | (simp; done) | (simp [*]; done)), H', ⟨by have := HK1.out; omega⟩, ⟨by repeat (first | (with_reducible first | exact HB.out | apply below_alloc | apply pw_below_drewN | apply below_drew1) | exact HB.out)⟩⟩
            · rw [if_neg c5] at H
              exact absurd H (by simp)
          · rw [if_neg c4] at H
            exact absurd H (by simp)
        · rw [if_neg c3] at H
          exact absurd H (by simp)
      · rw [if_neg c2] at H
        have c2b0 : decide (x17_1 < (l0.length : Int)) = false := decide_eq_false c2
        clear c2
        obtain ⟨y208, hy208⟩ : ∃ y_ : List Int, y_ = (([1779033703, 3144134277, 1013904242, 2773480762, 1359893119, 2600822924, 528734635, 1541459225] : List Int)) := ⟨_, rfl⟩
        replace H : (if (wrap64 (64 - (Int.tmod (wrap64 ((x3_1.size : Int) + 9)) 64))) = 64 then (certpathref01_Sum.j1 k1 x3_1 y208 (x3_1.size : Int) 0) else (certpathref01_Sum.j1 k1 x3_1 y208 (x3_1.size : Int) (wrap64 (64 - (Int.tmod (wrap64 ((x3_1.size : Int) + 9)) 64))))) = some r := by first | (rw [hy208]; with_reducible exact H) | (have H2_ := (Option.bind_some _ _).symm.trans H; rw [hy208]; with_reducible exact H2_) | (have H2_ := (Option.bind_some _ _).symm.trans H; with_reducible exact H2_) | with_reducible exact H | (rw [hy208]; exact H) | exact H
        have Ny208 := Aside0.mk hy208
        clear hy208
        have HC6 := Aside0.mk H
        clear H
        go_upto_if 33 with (first | ((with_reducible refine gate_dst (N := 25) rfl ?_); refine Kd.R_lit (Kd.int .u32) _ 35 ?hg (N := 25) ?hd (xs := ([1779033703, 3144134277, 1013904242, 2773480762, 1359893119, 2600822924, 528734635, 1541459225] : List Int)) (inner := [.int .u32 1779033703, .int .u32 3144134277, .int .u32 1013904242, .int .u32 2773480762, .int .u32 1359893119, .int .u32 2600822924, .int .u32 528734635, .int .u32 1541459225]) (ok := fun _ => True) (okp := fun _ => True) ?hr ?hp (fun _ hk => hk) trivial (Below.refl _ _) (Nat.le_refl _) (by simp) ?_; (case hd => rfl); (case hg => rfl); (case hr => first | (go_simp; done) | (go_simp; rfl)); (case hp => exact (Reps.one (show Kd.M (Kd.int .u32) _ _ _ 1779033703 [.int .u32 1779033703] from rfl) (Reps.one (show Kd.M (Kd.int .u32) _ _ _ 3144134277 [.int .u32 3144134277] from rfl) (Reps.one (show Kd.M (Kd.int .u32) _ _ _ 1013904242 [.int .u32 1013904242] from rfl) (Reps.one (show Kd.M (Kd.int .u32) _ _ _ 2773480762 [.int .u32 2773480762] from rfl) (Reps.one (show Kd.M (Kd.int .u32) _ _ _ 1359893119 [.int .u32 1359893119] from rfl) (Reps.one (show Kd.M (Kd.int .u32) _ _ _ 2600822924 [.int .u32 2600822924] from rfl) (Reps.one (show Kd.M (Kd.int .u32) _ _ _ 528734635 [.int .u32 528734635] from rfl) (Reps.one (show Kd.M (Kd.int .u32) _ _ _ 1541459225 [.int .u32 1541459225] from rfl) (Reps.none _ _)))))))))); intro v209 w7 ho8 hb hg_ hnew_; clear hg_ hnew_; (first | rw [← Ny208.out] at ho8 | (simp only [Int.reduceToNat] at ho8; rw [← Ny208.out] at ho8)); have n0_ := Aside0.mk (Kd.R_lower ho8 (below_size (by repeat (first | (with_reducible first | exact HB.out | apply below_alloc | apply pw_below_drewN | apply below_drew1) | exact HB.out)))); have n1_ := Aside0.mk (below_step (by repeat (first | (with_reducible first | exact HB.out | apply below_alloc | apply pw_below_drewN | apply below_drew1) | exact HB.out)) hb); clear HB; have HO210 := n0_; have HB := n1_; clear n0_ n1_; clear hb ho8))
        (try simp only [Act.put, List.setIfInBounds_toArray, List.set_cons_zero, List.set_cons_succ])
        go_cut [8] (fun v8 wc => ∃ (kq : Nat) (x8_5 : Int), v8 = .int .i64 x8_5 ∧ Aside0 (certpathref01_Sum.j1 kq x3_1 y208 (x3_1.size : Int) x8_5 = some r) ∧ Aside0 (kq ≤ k1) ∧ Aside0 (Kd.R (Kd.int .u32) 35 wc w.heap.size (fun _ => True) v209 y208) ∧ Aside0 (Below w.heap.size w wc))
        case first =>
          have H := HC6.out
          clear HC6
          by_cases c9 : (wrap64 (64 - (Int.tmod (wrap64 ((x3_1.size : Int) + 9)) 64))) = 64
          · rw [if_pos c9] at H
            have c9b0 : ((wrap64 (64 - (Int.tmod (wrap64 ((x3_1.size : Int) + 9)) 64))) == 64) = true := beq_iff_eq.mpr c9
            have c9b1 : ((wrap64 (64 - (Int.tmod (wrap64 ((x3_1.size : Int) + 9)) 64))) != 64) = false := bne_eq_false_iff_eq.mpr c9
            clear c9
            (first | rw [c9b0] | (simp only [i64_w, i32_w]; rw [c9b0]) | skip)
            have H' := Aside0.mk H
            clear H
            go_wp2
            go_meet
            case rel => exact ⟨_, (0), (by first | rfl | (simp; done) | (simp [*]; done)), H', ⟨by have := HK1.out; first | omega | exact Nat.le_refl _⟩, ⟨by (with_reducible repeat (first | apply Kd.R_alloc | apply Kd.R_drewN | apply Kd.R_drew)); exact HO210.out⟩, ⟨by repeat (first | (with_reducible first | exact HB.out | apply below_alloc | apply pw_below_drewN | apply below_drew1) | exact HB.out)⟩⟩
          · rw [if_neg c9] at H
            have c9b0 : ((wrap64 (64 - (Int.tmod (wrap64 ((x3_1.size : Int) + 9)) 64))) == 64) = false := beq_eq_false_iff_ne.mpr c9
            have c9b1 : ((wrap64 (64 - (Int.tmod (wrap64 ((x3_1.size : Int) + 9)) 64))) != 64) = true := bne_iff_ne.mpr c9
            (first | rw [c9b0] | (simp only [i64_w, i32_w]; rw [c9b0]) | skip)
            have H' := Aside0.mk H
            clear H
            go_wp2
            go_meet
            case rel => exact ⟨_, (wrap64 (64 - (Int.tmod (wrap64 ((x3_1.size : Int) + 9)) 64))), (by first | rfl | (simp; done) | (simp [*]; done)), H', ⟨by have := HK1.out; first | omega | exact Nat.le_refl _⟩, ⟨by (with_reducible repeat (first | apply Kd.R_alloc | apply Kd.R_drewN | apply Kd.R_drew)); exact HO210.out⟩, ⟨by repeat (first | (with_reducible first | exact HB.out | apply below_alloc | apply pw_below_drewN | apply below_drew1) | exact HB.out)⟩⟩
        case rest =>
          clear HC6
          try clear c1
          try clear c2
          try clear c2b0
          try clear p2
          try clear q2
          try clear hx2
          try clear c3
          try clear c3b0
          try clear c4
          try clear c4b0
          try clear c5
          try clear c5b0
          try clear c5b1
          try clear c5b2
          try clear p6
          try clear c9
          try clear c9b0
          try clear c9b1
          try clear hx207_0
          try clear p207
          try clear q207
          obtain ⟨kq, x8_5, rfl, HA, HJ5, HO_6, HB⟩ := hcut
          cases kq with
          | zero => exact absurd HA.out (by simp [certpathref01_Sum.j1])
          | succ kj5 =>
            have H := HA.out
            clear HA
            simp only [certpathref01_Sum.j1] at H
            obtain ⟨ji10, hji10⟩ : ∃ j_ : Int, (wrap64 (9 + x8_5)) = j_ := ⟨_, rfl⟩
            replace H : (if 0 ≤ (ji10) then (if (ji10 : Int).toNat ≤ 281474976710656 then ((some (List.replicate (ji10 : Int).toNat 0 : List Int)).bind fun y211 => (if 0 < (y211.length : Int) then (certpathref01_Sum.l1 kj5 x3_1 y208 (x3_1.size : Int) (y211.set (0 : Int).toNat 128) 0) else (none))) else (none)) else (none)) = some r := by first | (rw [hji10] at H; exact H) | (simp only [hji10] at H ⊢; exact H)
            have hji10w : (IntKind.i64.wrap (9 + x8_5)) = ji10 := (i64_w _).trans hji10
            by_cases c11 : 0 ≤ (ji10)
            · rw [if_pos c11] at H
              have c11b0 := eq_true c11
              have c11b1 : decide (0 ≤ (ji10)) = true := decide_eq_true c11
              clear c11
              by_cases c12 : (ji10 : Int).toNat ≤ 281474976710656
              · rw [if_pos c12] at H
                have c12b0 := eq_true c12
                have c12b1 : decide ((ji10 : Int).toNat ≤ 281474976710656) = true := decide_eq_true c12
                clear c12
                obtain ⟨y211, hy211⟩ : ∃ y_ : List Int, y_ = (List.replicate (ji10 : Int).toNat 0) := ⟨_, rfl⟩
                replace H : (if 0 < (y211.length : Int) then (certpathref01_Sum.l1 kj5 x3_1 y208 (x3_1.size : Int) (y211.set (0 : Int).toNat 128) 0) else (none)) = some r := by first | (rw [hy211]; with_reducible exact H) | (have H2_ := (Option.bind_some _ _).symm.trans H; rw [hy211]; with_reducible exact H2_) | (have H2_ := (Option.bind_some _ _).symm.trans H; with_reducible exact H2_) | with_reducible exact H | (rw [hy211]; exact H) | exact H
                have Ny211 := Aside0.mk hy211
                clear hy211
                by_cases c13 : 0 < (y211.length : Int)
                · rw [if_pos c13] at H
                  have c13b0 : decide (0 < (y211.length : Int)) = true := decide_eq_true c13
                  have c13b1 : decide (0 < y211.length) = true := decide_eq_true (by omega)
                  clear c13
                  obtain ⟨y214, hy214⟩ : ∃ y_ : List Int, y_ = (y211.set (0 : Int).toNat 128) := ⟨_, rfl⟩
                  replace H : (certpathref01_Sum.l1 kj5 x3_1 y208 (x3_1.size : Int) y214 0) = some r := by first | (rw [hy214]; with_reducible exact H) | (have H2_ := (Option.bind_some _ _).symm.trans H; rw [hy214]; with_reducible exact H2_) | (have H2_ := (Option.bind_some _ _).symm.trans H; with_reducible exact H2_) | with_reducible exact H | (rw [hy214]; exact H) | exact H
                  have Ny214 := Aside0.mk hy214
                  clear hy214
                  have H' := Aside0.mk H
                  clear H
                  go_wp2_with (first | ((with_reducible refine gate_dst (N := 36) rfl ?_); refine Kd.R_make (Kd.int .u8) _ 5 rfl (N := 36) rfl 28 _ _ rfl ji10 rfl rfl Try.underlying28 (.int .u8 0) 1 info5 rfl (by decide) (by omega) 0 (ok := fun _ => True) (okp := fun _ => True) rfl (fun _ hk => hk) trivial (of_decide_eq_true (by first | (with_reducible assumption) | assumption)) (Nat.le_trans (Nat.mul_le_mul_right _ (of_decide_eq_true (by first | (with_reducible assumption) | assumption) : ji10.toNat ≤ 281474976710656)) (by omega)) (Below.refl _ _) (Nat.le_refl _) ?_; intro v212 w15 ho16 hb hg_ hnew_; clear hg_ hnew_; (first | rw [← Ny211.out] at ho16 | (simp only [Int.reduceToNat] at ho16; rw [← Ny211.out] at ho16)); have n0_ := Aside0.mk (Kd.R_below (by (with_reducible repeat (first | apply Kd.R_alloc | apply Kd.R_drewN | apply Kd.R_drew)); exact HO_6.out) hb); have n1_ := Aside0.mk (Kd.R_lower ho16 (below_size (by repeat (first | (with_reducible first | exact HB.out | apply below_alloc | apply pw_below_drewN | apply below_drew1) | exact HB.out)))); have n2_ := Aside0.mk (below_step (by repeat (first | (with_reducible first | exact HB.out | apply below_alloc | apply pw_below_drewN | apply below_drew1) | exact HB.out)) hb); clear HO_6; clear HB; have HO_6 := n0_; have HO213 := n1_; have HB := n2_; clear n0_ n1_ n2_; clear hb ho16; have p14 : 0 ≤ (0 : Int) := (by omega); have q14 : (0 : Int) < ((y211.length : Int) : Int) := of_decide_eq_true (by first | (with_reducible assumption) | assumption); have qi14 : (0 < y211.length) = True := eq_true (by omega); obtain ⟨go14, co14, eo14, gb14, gl14, cl14, HG14⟩ := Kd.R_form HO213.out (by omega); (first | cases eo14 | (injection eo14 with ea_ en_ ec_; (first | subst ea_ | (injection ea_ with ea_; subst ea_)); subst ec_; clear en_)); have GB14 := Aside0.mk gb14; have GG14 := Aside0.mk HG14; clear gb14 gl14 HG14; obtain ⟨hx14_0, hf14_0⟩ := Kd.R_celln 0 HO213.out (0 : Int) p14 q14; (try rw [show ((0 : Int)).toNat = 0 from rfl] at hx14_0); (try simp only [Nat.reduceMul, Nat.zero_mul, Nat.zero_add, Nat.reduceAdd] at hx14_0); (try rw [show ((0 : Int)).toNat = 0 from rfl] at hf14_0); (try simp only [Nat.reduceMul, Nat.zero_mul, Nat.zero_add, Nat.reduceAdd] at hf14_0); replace p14 := eq_true p14; replace q14 := eq_true q14; obtain ⟨hy17_, hz17_⟩ := Kd.R_celln 0 HO213.out (0 : Int) (by omega) (of_decide_eq_true (by first | (with_reducible assumption) | assumption)); (try simp only [Int.reduceToNat, Int.toNat_zero, Int.toNat_ofNat, Nat.reduceMul, Nat.zero_mul, Nat.zero_add] at hy17_ hz17_); (try rw [show ((0 : Int)).toNat = 0 from rfl] at hy17_); (try rw [show ((0 : Int)).toNat = 0 from rfl] at hz17_); have HP17 := Kd.R_putg HO213.out (0 : Int) 128) | ((with_reducible refine gate_store (t := 5) (p := 38) rfl ?_); refine store_event (t := 5) (p := 38) (v := ?vo_w18) (w1 := (w15.setCell ⟨go14, (0 : Int).toNat, none⟩ (.int .u8 128))) ?hg ?ho ?hn ?hr ?_; (case ho => rfl); (case hg => rfl); (case hn => rfl); (case hr => first | (go_simp; done) | (go_simp; rfl)); intro w18 hw; have hg : w15.grownBy w18 (some go14) := (by rw [hw]; exact HP17.2); have hp_ : Kd.R (Kd.int .u8) 5 w18 w.heap.size (fun _ => True) (.slice (some ⟨go14, 0, none⟩) y211.length co14) y214 := (by rw [hw, Ny214.out]; exact HP17.1); clear HP17; have n0_ := Aside0.mk (Kd.R_over' (v := (.slice (some ⟨go14, 0, none⟩) y211.length co14)) (by (with_reducible repeat (first | apply Kd.R_alloc | apply Kd.R_drewN | apply Kd.R_drew)); exact HO_6.out) (Kd.R_typed HO213.out) (by decide) hg); have n1_ := Aside0.mk (hp_); have n2_ := Aside0.mk ((by rw [hw]; exact below_set (HB.out) GB14.out : Below w.heap.size w w18)); clear HO_6; clear HO213; clear HB; have HO_6 := n0_; have HO213 := n1_; have HB := n2_; clear n0_ n1_ n2_; clear hg hw hp_))
                  go_loopg [10] kj5 (fun kq v10 w' => ∃ (x9_3 : List Int) (x10_3 : Int), v10 = .int .i64 x10_3 ∧ Aside0 (certpathref01_Sum.l1 kq x3_1 y208 (x3_1.size : Int) x9_3 x10_3 = some r) ∧ Aside0 (kq ≤ kj5) ∧ Aside0 (Kd.R (Kd.int .u32) 35 w' w.heap.size (fun _ => True) v209 y208) ∧ Aside0 (Kd.R (Kd.int .u8) 5 w' w.heap.size (fun _ => True) (.slice (some ⟨go14, 0, none⟩) y211.length co14) x9_3) ∧ Aside0 (Below w.heap.size w w'))
                  case atStart => exact ⟨(y214), (0), (by first | rfl | (simp; done) | (simp [*]; done)), H', ⟨Nat.le_refl _⟩, ⟨by (with_reducible repeat (first | apply Kd.R_alloc | apply Kd.R_drewN | apply Kd.R_drew)); exact HO_6.out⟩, ⟨by (with_reducible repeat (first | apply Kd.R_alloc | apply Kd.R_drewN | apply Kd.R_drew)); exact HO213.out⟩, ⟨by repeat (first | (with_reducible first | exact HB.out | apply below_alloc | apply pw_below_drewN | apply below_drew1) | exact HB.out)⟩⟩
                  case round =>
                    clear H'
                    try clear c1
                    try clear p1
                    try clear q1
                    try clear hx1
                    try clear qi1
                    try clear hf1
                    try clear c2
                    try clear c2b0
                    try clear p2
                    try clear q2
                    try clear hx2
                    try clear c3
                    try clear c3b0
                    try clear c4
                    try clear c4b0
                    try clear c5
                    try clear c5b0
                    try clear c5b1
                    try clear c5b2
                    try clear p6
                    try clear c9
                    try clear c9b0
                    try clear c9b1
                    try clear c11
                    try clear c11b0
                    try clear c11b1
                    try clear c12
                    try clear c12b0
                    try clear c12b1
                    try clear c13
                    try clear c13b0
                    try clear c13b1
                    try clear p14
                    try clear q14
                    try clear hx14
                    try clear qi14
                    try clear hf14
                    try clear hx14_0
                    try clear hx207_0
                    try clear p14
                    try clear p2
                    try clear p207
                    try clear p6
                    try clear q14
                    try clear q2
                    try clear q207
                    obtain ⟨x9_3, x10_3, rfl, HA, HK3, HO_6, HO_9, HB⟩ := hrel
                    have hl9_3 := (Kd.R_reads' HO_9.out).1
                    rw [hl9_3] at HO_9
                    (try simp only [hl9_3])
                    (try simp only [hl9_3] at HO_6)
                    cases gk with
                    | zero => exact absurd HA.out (by simp [certpathref01_Sum.l1])
                    | succ k3 =>
                      have H := HA.out
                      clear HA
                      simp only [certpathref01_Sum.l1] at H
                      by_cases c19 : x10_3 < 8
                      · rw [if_pos c19] at H
                        have c19b0 : decide (x10_3 < 8) = true := decide_eq_true c19
                        clear c19
                        obtain ⟨ji20, hji20⟩ : ∃ j_ : Int, (wrap64 (8 * x10_3)) = j_ := ⟨_, rfl⟩
                        replace H : (if 0 ≤ (ji20) then (if 0 ≤ (wrap64 ((wrap64 ((x9_3.length : Int) - 1)) - x10_3)) then (if (wrap64 ((wrap64 ((x9_3.length : Int) - 1)) - x10_3)) < (x9_3.length : Int) then (certpathref01_Sum.l1 k3 x3_1 y208 (x3_1.size : Int) (x9_3.set ((wrap64 ((wrap64 ((x9_3.length : Int) - 1)) - x10_3)) : Int).toNat ((shr .i64 (wrap64 (8 * (x3_1.size : Int))) (ji20)) % 256)) (wrap64 (x10_3 + 1))) else (none)) else (none)) else (none)) = some r := by first | (rw [hji20] at H; exact H) | (simp only [hji20] at H ⊢; exact H)
                        have hji20w : (IntKind.i64.wrap (8 * x10_3)) = ji20 := (i64_w _).trans hji20
                        by_cases c21 : 0 ≤ (ji20)
                        · rw [if_pos c21] at H
                          have c21b0 := eq_true c21
                          have c21b1 : decide (0 ≤ (ji20)) = true := decide_eq_true c21
                          clear c21
                          obtain ⟨ji22, hji22⟩ : ∃ j_ : Int, (shr .i64 (wrap64 (8 * (x3_1.size : Int))) (ji20)) = j_ := ⟨_, rfl⟩
                          replace H : (if 0 ≤ (wrap64 ((wrap64 ((x9_3.length : Int) - 1)) - x10_3)) then (if (wrap64 ((wrap64 ((x9_3.length : Int) - 1)) - x10_3)) < (x9_3.length : Int) then (certpathref01_Sum.l1 k3 x3_1 y208 (x3_1.size : Int) (x9_3.set ((wrap64 ((wrap64 ((x9_3.length : Int) - 1)) - x10_3)) : Int).toNat ((ji22) % 256)) (wrap64 (x10_3 + 1))) else (none)) else (none)) = some r := by first | (rw [hji22] at H; exact H) | (simp only [hji22] at H ⊢; exact H)
                          have hji22_ : ((wrap64 (8 * (x3_1.size : Int))) / 2 ^ min (ji20).toNat 64) = ji22 := hji22
                          have hji22z : (ji20) ≤ 64 → ((wrap64 (8 * (x3_1.size : Int))) / 2 ^ (ji20).toNat) = ji22 := shr_small hji22
                          obtain ⟨ji23, hji23⟩ : ∃ j_ : Int, (wrap64 ((wrap64 ((x9_3.length : Int) - 1)) - x10_3)) = j_ := ⟨_, rfl⟩
                          replace H : (if 0 ≤ (ji23) then (if (ji23) < (x9_3.length : Int) then (certpathref01_Sum.l1 k3 x3_1 y208 (x3_1.size : Int) (x9_3.set ((ji23) : Int).toNat ((ji22) % 256)) (wrap64 (x10_3 + 1))) else (none)) else (none)) = some r := by first | (rw [hji23] at H; exact H) | (simp only [hji23] at H ⊢; exact H)
                          have hji23w : (IntKind.i64.wrap ((wrap64 ((x9_3.length : Int) - 1)) - x10_3)) = ji23 := (i64_w _).trans hji23
                          by_cases c24 : 0 ≤ (ji23)
                          · rw [if_pos c24] at H
                            have c24b0 : decide (0 ≤ (ji23)) = true := decide_eq_true c24
                            clear c24
                            by_cases c25 : (ji23) < (x9_3.length : Int)
                            · rw [if_pos c25] at H
                              have c25b0 : decide ((ji23) < (x9_3.length : Int)) = true := decide_eq_true c25
                              clear c25
                              obtain ⟨y215, hy215⟩ : ∃ y_ : List Int, y_ = (x9_3.set ((ji23) : Int).toNat ((ji22) % 256)) := ⟨_, rfl⟩
                              replace H : (certpathref01_Sum.l1 k3 x3_1 y208 (x3_1.size : Int) y215 (wrap64 (x10_3 + 1))) = some r := by first | (rw [hy215]; with_reducible exact H) | (have H2_ := (Option.bind_some _ _).symm.trans H; rw [hy215]; with_reducible exact H2_) | (have H2_ := (Option.bind_some _ _).symm.trans H; with_reducible exact H2_) | with_reducible exact H | (rw [hy215]; exact H) | exact H
                              have Ny215 := Aside0.mk hy215
                              clear hy215
                              have H' := Aside0.mk H
                              clear H
                              have p26 : 0 ≤ ((ji23) : Int) := of_decide_eq_true (by first | (with_reducible assumption) | assumption)
                              have q26 : ((ji23) : Int) < ((x9_3.length : Int) : Int) := of_decide_eq_true (by first | (with_reducible assumption) | assumption)
                              obtain ⟨hx26_0, hf26_0⟩ := Kd.R_celln 0 HO_9.out ((ji23) : Int) p26 q26
                              replace p26 := eq_true p26
                              replace q26 := eq_true q26
                              have HP27 := Kd.R_putg HO_9.out ((ji23) : Int) ((ji22) % 256)
                              go_wp2_with (first | ((with_reducible refine gate_store (t := 5) (p := 55) rfl ?_); refine store_event (t := 5) (p := 55) (v := ?vo_w28) (w1 := (wr.setCell ⟨go14, ((ji23) : Int).toNat, none⟩ (.int .u8 ((ji22) % 256)))) ?hg ?ho ?hn ?hr ?_; (case ho => rfl); (case hg => rfl); (case hn => rfl); (case hr => first | (go_simp; done) | (go_simp; rfl)); intro w28 hw; have hg : wr.grownBy w28 (some go14) := (by rw [hw]; exact HP27.2); have hp_ : Kd.R (Kd.int .u8) 5 w28 w.heap.size (fun _ => True) (.slice (some ⟨go14, 0, none⟩) x9_3.length co14) y215 := (by rw [hw, Ny215.out]; exact HP27.1); clear HP27; have n0_ := Aside0.mk (Kd.R_over' (v := (.slice (some ⟨go14, 0, none⟩) x9_3.length co14)) (by (with_reducible repeat (first | apply Kd.R_alloc | apply Kd.R_drewN | apply Kd.R_drew)); exact HO_6.out) (Kd.R_typed HO_9.out) (by decide) hg); have n1_ := Aside0.mk (hp_); have n2_ := Aside0.mk ((by rw [hw]; exact below_set (HB.out) GB14.out : Below w.heap.size w w28)); clear HO_6; clear HO_9; clear HB; have HO_6 := n0_; have HO_9 := n1_; have HB := n2_; clear n0_ n1_ n2_; clear hg hw hp_))
                              (try simp only [← hl9_3])
                              go_roundg k3
                              case measure => have := HK1.out; have := HJ5.out; have := HK3.out; omega
                              case rel => exact ⟨(y215), (wrap64 (x10_3 + 1)), (by first | rfl | (simp; done) | (simp [*]; done)), H', ⟨by have := HK1.out; have := HJ5.out; have := HK3.out; omega⟩, ⟨by (try simp only [hl9_3]); (with_reducible repeat (first | apply Kd.R_alloc | apply Kd.R_drewN | apply Kd.R_drew)); exact HO_6.out⟩, ⟨by (try simp only [hl9_3]); (with_reducible repeat (first | apply Kd.R_alloc | apply Kd.R_drewN | apply Kd.R_drew)); exact HO_9.out⟩, ⟨by repeat (first | (with_reducible first | exact HB.out | apply below_alloc | apply pw_below_drewN | apply below_drew1) | exact HB.out)⟩⟩
                            · rw [if_neg c25] at H
                              exact absurd H (by simp)
                          · rw [if_neg c24] at H
                            exact absurd H (by simp)
                        · rw [if_neg c21] at H
                          exact absurd H (by simp)
                      · rw [if_neg c19] at H
                        have c19b0 : decide (x10_3 < 8) = false := decide_eq_false c19
                        clear c19
                        by_cases c29 : x3_1.size + (strOfNums x9_3).size ≤ 9223372036854775807
                        · rw [if_pos c29] at H
                          have c29b0 := eq_true c29
                          have c29b1 : decide (x3_1.size + (strOfNums x9_3).size ≤ 9223372036854775807) = true := decide_eq_true c29
                          try have c29b2 : (9223372036854775807 < x3_1.size + (strOfNums x9_3).size) = False := eq_false (Nat.not_lt.2 c29)
                          have H' := Aside0.mk H
                          clear H
                          have hcv30 := own_string (P := Try.prog) Try.underlying28 Try.underlying5 Try.underlying9 (Kd.own_of_R HO_9.out)
                          go_wp2
                          generalize hcat1_ : x3_1 ++ (strOfNums x9_3) = dcat1_ at *
                          go_loopg [6, 11] k3 (fun kq v6 v11 w' => ∃ (x6_4 : List Int) (x11_4 : Int), v11 = .int .i64 x11_4 ∧ Aside0 (certpathref01_Sum.l2 kq dcat1_ x6_4 x11_4 = some r) ∧ Aside0 (kq ≤ k3) ∧ Aside0 (Kd.R (Kd.int .u32) 35 w' w.heap.size (fun _ => True) v6 x6_4) ∧ Aside0 (Below w.heap.size w w'))
                          case atStart => exact ⟨(y208), (0), (by first | rfl | (simp; done) | (simp [*]; done)), H', ⟨Nat.le_refl _⟩, ⟨by (try simp only [hl9_3]); (with_reducible repeat (first | apply Kd.R_alloc | apply Kd.R_drewN | apply Kd.R_drew)); exact HO_6.out⟩, ⟨by repeat (first | (with_reducible first | exact HB.out | apply below_alloc | apply pw_below_drewN | apply below_drew1) | exact HB.out)⟩⟩
                          case round =>
                            clear H'
                            try clear c1
                            try clear p1
                            try clear q1
                            try clear hx1
                            try clear qi1
                            try clear hf1
                            try clear c2
                            try clear c2b0
                            try clear p2
                            try clear q2
                            try clear hx2
                            try clear hf2
                            try clear c3
                            try clear c3b0
                            try clear hcv3
                            try clear c4
                            try clear c4b0
                            try clear c5
                            try clear c5b0
                            try clear c5b1
                            try clear c5b2
                            try clear p6
                            try clear c9
                            try clear c9b0
                            try clear c9b1
                            try clear c11
                            try clear c11b0
                            try clear c11b1
                            try clear c12
                            try clear c12b0
                            try clear c12b1
                            try clear c13
                            try clear c13b0
                            try clear c13b1
                            try clear p14
                            try clear q14
                            try clear hx14
                            try clear qi14
                            try clear hf14
                            try clear c19
                            try clear c19b0
                            try clear p20
                            try clear q20
                            try clear hx20
                            try clear c21
                            try clear c21b0
                            try clear c21b1
                            try clear c24
                            try clear c24b0
                            try clear c25
                            try clear c25b0
                            try clear p26
                            try clear q26
                            try clear hx26
                            try clear hf26
                            try clear c29
                            try clear c29b0
                            try clear c29b1
                            try clear c29b2
                            try clear hcv30
                            try clear hx14_0
                            try clear hx207_0
                            try clear hx26_0
                            try clear p1
                            try clear p14
                            try clear p2
                            try clear p207
                            try clear p26
                            try clear p6
                            try clear q1
                            try clear q14
                            try clear q2
                            try clear q207
                            try clear q26
                            obtain ⟨x6_4, x11_4, rfl, HA, HK4, HO_6, HB⟩ := hrel
                            cases gk with
                            | zero => exact absurd HA.out (by simp [certpathref01_Sum.l2])
                            | succ k4 =>
                              have H := HA.out
                              clear HA
                              simp only [certpathref01_Sum.l2] at H
                              by_cases c31 : x11_4 < (dcat1_.size : Int)
                              · rw [if_pos c31] at H
                                have c31b0 : decide (x11_4 < (dcat1_.size : Int)) = true := decide_eq_true c31
                                clear c31
                                by_cases c32 : 0 ≤ x11_4
                                · rw [if_pos c32] at H
                                  have c32b0 := eq_true c32
                                  have c32b1 : decide (0 ≤ x11_4) = true := decide_eq_true c32
                                  clear c32
                                  by_cases c33 : x11_4 ≤ (wrap64 (x11_4 + 64))
                                  · rw [if_pos c33] at H
                                    have c33b0 := eq_true c33
                                    have c33b1 : decide (x11_4 ≤ (wrap64 (x11_4 + 64))) = true := decide_eq_true c33
                                    by_cases c34 : (wrap64 (x11_4 + 64)) ≤ (dcat1_.size : Int)
                                    · rw [if_pos c34] at H
                                      have c34b0 := eq_true c34
                                      have c34b1 : decide ((wrap64 (x11_4 + 64)) ≤ (dcat1_.size : Int)) = true := decide_eq_true c34
                                      replace H := Option.bind_eq_some_iff.mp H
                                      obtain ⟨t216, A350, H⟩ := H
                                      replace H : (certpathref01_Sum.l2 k4 dcat1_ t216 (wrap64 (x11_4 + 64))) = some r := H
                                      have A35 := Aside0.mk A350
                                      clear A350
                                      have H' := Aside0.mk H
                                      clear H
                                      obtain ⟨Ao36, co36, eo36⟩ := Kd.R_slice HO_6.out
                                      subst eo36
                                      go_wp2_with (first | ((with_reducible refine gate_callee (f := 22) rfl ?_); refine goesL_ (some 72) rfl rfl Try.func22 (by kernel_rfl) rfl #[.slice Ao36 x6_4.length co36, .string (dcat1_.extract (x11_4 : Int).toNat ((wrap64 (x11_4 + 64)) : Int).toNat)] rfl (by (try simp only [List.map_toArray, List.map_cons, List.map_nil]); first | done | rfl | (simp only [List.length_drop, List.length_take]; rfl)) ?_; (with_reducible refine (certpathref01_round.calls k4 _ _ x6_4 (dcat1_.extract (x11_4 : Int).toNat ((wrap64 (x11_4 + 64)) : Int).toNat) t216 _ ?side1 ?side2 A35.out).mono ?_); (case side1 => repeat (first | exact (Kd.R_reads' HO_6.out).2.2 | (with_reducible refine Kd.C_alloc ?_ _) | (with_reducible refine Kd.C_drewN ?_ _) | (with_reducible refine Kd.C_drew ?_))); (case side2 => exact (Kd.R_reads' HO_6.out).2.1); rintro e w37 ⟨v217, rfl, ho0, hb⟩; refine ⟨_, rfl, ?_⟩; have n0_ := Aside0.mk (Kd.R_elder' (by (with_reducible repeat (first | apply Kd.R_alloc | apply Kd.R_drewN | apply Kd.R_drew)); exact HO_6.out) (Kd.R_base ho0) hb); have n1_ := Aside0.mk (Kd.R_lower (Kd.R_new' ho0 (Kd.R_lt (by (with_reducible repeat (first | apply Kd.R_alloc | apply Kd.R_drewN | apply Kd.R_drew)); exact HO_6.out))) (below_size (by repeat (first | (with_reducible first | exact HB.out | apply below_alloc | apply pw_below_drewN | apply below_drew1) | exact HB.out)))); have n2_ := Aside0.mk (below_step (by repeat (first | (with_reducible first | exact HB.out | apply below_alloc | apply pw_below_drewN | apply below_drew1) | exact HB.out)) hb); clear HO_6; clear HB; have HO_6 := n0_; have HO218 := n1_; have HB := n2_; clear n0_ n1_ n2_; (try clear hb); (try clear hb2); (try clear hk); (try clear hi); (try clear ho0)))
                                      go_roundg k4
                                      case measure => have := HK1.out; have := HJ5.out; have := HK3.out; have := HK4.out; omega
                                      case rel => exact ⟨(t216), (wrap64 (x11_4 + 64)), (by first | rfl | (simp; done) | (simp [*]; done)), H', ⟨by have := HK1.out; have := HJ5.out; have := HK3.out; have := HK4.out; omega⟩, ⟨by (try simp only [hl9_3]); (with_reducible repeat (first | apply Kd.R_alloc | apply Kd.R_drewN | apply Kd.R_drew)); exact Kd.R_mono HO218.out (fun _ hk => trivial)⟩, ⟨by repeat (first | (with_reducible first | exact HB.out | apply below_alloc | apply pw_below_drewN | apply below_drew1) | exact HB.out)⟩⟩
                                    · rw [if_neg c34] at H
                                      exact absurd H (by simp)
                                  · rw [if_neg c33] at H
                                    exact absurd H (by simp)
                                · rw [if_neg c32] at H
                                  exact absurd H (by simp)
                              · rw [if_neg c31] at H
                                have c31b0 : decide (x11_4 < (dcat1_.size : Int)) = false := decide_eq_false c31
                                clear c31
                                obtain ⟨y219, hy219⟩ : ∃ y_ : List Int, y_ = (([] : List Int)) := ⟨_, rfl⟩
                                replace H : (certpathref01_Sum.l3 k4 y219 x6_4 (x6_4.length : Int) 0) = some r := by first | (rw [hy219]; with_reducible exact H) | (have H2_ := (Option.bind_some _ _).symm.trans H; rw [hy219]; with_reducible exact H2_) | (have H2_ := (Option.bind_some _ _).symm.trans H; with_reducible exact H2_) | with_reducible exact H | (rw [hy219]; exact H) | exact H
                                have Ny219 := Aside0.mk hy219
                                clear hy219
                                have H' := Aside0.mk H
                                clear H
                                go_wp2_with (first | ((with_reducible refine gate_dst (N := 73) rfl ?_); refine Ext.R_make0 (Kd.int .u8) _ 5 rfl (N := 73) rfl 28 _ _ rfl 32 rfl rfl Try.underlying28 (.int .u8 0) 1 info5 rfl (by decide) (by omega) (ok := fun _ => True) trivial (by omega) (by omega) (Below.refl _ _) (Nat.le_refl _) ?_; intro v220 w38 ho39 hb hg_ hnew_; clear hg_ hnew_; rw [← Ny219.out] at ho39; have n0_ := Aside0.mk (Kd.R_below (by (with_reducible repeat (first | apply Kd.R_alloc | apply Kd.R_drewN | apply Kd.R_drew)); exact HO_6.out) hb); have n1_ := Aside0.mk (Kd.R_lower ho39 (below_size (by repeat (first | (with_reducible first | exact HB.out | apply below_alloc | apply pw_below_drewN | apply below_drew1) | exact HB.out)))); have n2_ := Aside0.mk (below_step (by repeat (first | (with_reducible first | exact HB.out | apply below_alloc | apply pw_below_drewN | apply below_drew1) | exact HB.out)) hb); clear HO_6; clear HB; have HO_6 := n0_; have HO221 := n1_; have HB := n2_; clear n0_ n1_ n2_; clear hb ho39; obtain ⟨Ao40, co40, eo40⟩ := Kd.R_slice HO_6.out; subst eo40))
                                go_loopg [12, 76] k4 (fun kq v12 v76 w' => ∃ (x12_5 : List Int) (x76_5 : Int), v76 = .int .i64 x76_5 ∧ Aside0 (certpathref01_Sum.l3 kq x12_5 x6_4 (x6_4.length : Int) x76_5 = some r) ∧ Aside0 (kq ≤ k4) ∧ Aside0 (Kd.R (Kd.int .u8) 5 w' w.heap.size (fun _ => True) v12 x12_5) ∧ Aside0 (Kd.R (Kd.int .u32) 35 w' w.heap.size (fun _ => True) (.slice Ao40 x6_4.length co40) x6_4) ∧ Aside0 (Below w.heap.size w w'))
                                case atStart => exact ⟨(y219), (0), (by first | rfl | (simp; done) | (simp [*]; done)), H', ⟨Nat.le_refl _⟩, ⟨by (try simp only [hl9_3]); (with_reducible repeat (first | apply Kd.R_alloc | apply Kd.R_drewN | apply Kd.R_drew)); exact HO221.out⟩, ⟨by (try simp only [hl9_3]); (with_reducible repeat (first | apply Kd.R_alloc | apply Kd.R_drewN | apply Kd.R_drew)); exact HO_6.out⟩, ⟨by repeat (first | (with_reducible first | exact HB.out | apply below_alloc | apply pw_below_drewN | apply below_drew1) | exact HB.out)⟩⟩
                                case round =>
                                  clear H'
                                  try clear c1
                                  try clear p1
                                  try clear q1
                                  try clear hx1
                                  try clear qi1
                                  try clear hf1
                                  try clear c2
                                  try clear c2b0
                                  try clear p2
                                  try clear q2
                                  try clear hx2
                                  try clear hf2
                                  try clear c3
                                  try clear c3b0
                                  try clear hcv3
                                  try clear c4
                                  try clear c4b0
                                  try clear c5
                                  try clear c5b0
                                  try clear c5b1
                                  try clear c5b2
                                  try clear p6
                                  try clear c9
                                  try clear c9b0
                                  try clear c9b1
                                  try clear c11
                                  try clear c11b0
                                  try clear c11b1
                                  try clear c12
                                  try clear c12b0
                                  try clear c12b1
                                  try clear c13
                                  try clear c13b0
                                  try clear c13b1
                                  try clear p14
                                  try clear q14
                                  try clear hx14
                                  try clear qi14
                                  try clear hf14
                                  try clear c19
                                  try clear c19b0
                                  try clear p20
                                  try clear q20
                                  try clear hx20
                                  try clear c21
                                  try clear c21b0
                                  try clear c21b1
                                  try clear c22
                                  try clear c24
                                  try clear c24b0
                                  try clear c25
                                  try clear c25b0
                                  try clear p26
                                  try clear q26
                                  try clear hx26
                                  try clear hf26
                                  try clear c29
                                  try clear c29b0
                                  try clear c29b1
                                  try clear c29b2
                                  try clear hcv30
                                  try clear c31
                                  try clear c31b0
                                  try clear c32
                                  try clear c32b0
                                  try clear c32b1
                                  try clear c33
                                  try clear c33b0
                                  try clear c33b1
                                  try clear c34
                                  try clear c34b0
                                  try clear c34b1
                                  try clear hx14_0
                                  try clear hx207_0
                                  try clear hx26_0
                                  try clear p1
                                  try clear p14
                                  try clear p2
                                  try clear p20
                                  try clear p207
                                  try clear p26
                                  try clear p6
                                  try clear q1
                                  try clear q14
                                  try clear q2
                                  try clear q20
                                  try clear q207
                                  try clear q26
                                  obtain ⟨x12_5, x76_5, rfl, HA, HK5, HO_12, HO_74, HB⟩ := hrel
                                  cases gk with
                                  | zero => exact absurd HA.out (by simp [certpathref01_Sum.l3])
                                  | succ k5 =>
                                    have H := HA.out
                                    clear HA
                                    simp only [certpathref01_Sum.l3] at H
                                    by_cases c41 : x76_5 < (x6_4.length : Int)
                                    · rw [if_pos c41] at H
                                      have c41b0 : decide (x76_5 < (x6_4.length : Int)) = true := decide_eq_true c41
                                      clear c41
                                      by_cases c42 : 0 ≤ x76_5
                                      · rw [if_pos c42] at H
                                        have c42b0 : decide (0 ≤ x76_5) = true := decide_eq_true c42
                                        clear c42
                                        by_cases c43 : x76_5 < (x6_4.length : Int)
                                        · rw [if_pos c43] at H
                                          have c43b0 : decide (x76_5 < (x6_4.length : Int)) = true := decide_eq_true c43
                                          clear c43
                                          obtain ⟨y223, hy223⟩ : ∃ y_ : List Int, y_ = (([((rd x6_4 x76_5) / 16777216) % 256, ((rd x6_4 x76_5) / 65536) % 256, ((rd x6_4 x76_5) / 256) % 256, (rd x6_4 x76_5) % 256] : List Int)) := ⟨_, rfl⟩
                                          replace H : (if x12_5.length + y223.length < 140737488355328 then (certpathref01_Sum.l3 k5 (x12_5 ++ y223) x6_4 (x6_4.length : Int) (wrap64 (x76_5 + 1))) else (none)) = some r := by first | (rw [hy223]; with_reducible exact H) | (have H2_ := (Option.bind_some _ _).symm.trans H; rw [hy223]; with_reducible exact H2_) | (have H2_ := (Option.bind_some _ _).symm.trans H; with_reducible exact H2_) | with_reducible exact H | (rw [hy223]; exact H) | exact H
                                          have Ny223 := Aside0.mk hy223
                                          clear hy223
                                          by_cases c44 : x12_5.length + y223.length < 140737488355328
                                          · rw [if_pos c44] at H
                                            have LMc44 := Aside0.mk c44
                                            clear c44
                                            obtain ⟨y226, hy226⟩ : ∃ y_ : List Int, y_ = (x12_5 ++ y223) := ⟨_, rfl⟩
                                            replace H : (certpathref01_Sum.l3 k5 y226 x6_4 (x6_4.length : Int) (wrap64 (x76_5 + 1))) = some r := by first | (rw [hy226]; with_reducible exact H) | (have H2_ := (Option.bind_some _ _).symm.trans H; rw [hy226]; with_reducible exact H2_) | (have H2_ := (Option.bind_some _ _).symm.trans H; with_reducible exact H2_) | with_reducible exact H | (rw [hy226]; exact H) | exact H
                                            have Ny226 := Aside0.mk hy226
                                            clear hy226
                                            have H' := Aside0.mk H
                                            clear H
                                            have p222 : 0 ≤ (x76_5 : Int) := of_decide_eq_true (by first | (with_reducible assumption) | assumption)
                                            have q222 : x76_5 < (x6_4.length : Int) := of_decide_eq_true (by first | (with_reducible assumption) | assumption)
                                            obtain ⟨ad222, e222, hx222_0⟩ := Kd.at_int (Kd.R_reads' HO_74.out).2.2 x76_5 p222 q222
                                            cases e222
                                            replace p222 := eq_true p222
                                            replace q222 := eq_true q222
                                            go_wp2_with (first | ((with_reducible refine gate_dst (N := 92) rfl ?_); refine Kd.R_lit (Kd.int .u8) _ 5 ?hg (N := 92) ?hd (xs := ([((rd x6_4 x76_5) / 16777216) % 256, ((rd x6_4 x76_5) / 65536) % 256, ((rd x6_4 x76_5) / 256) % 256, (rd x6_4 x76_5) % 256] : List Int)) (inner := [.int .u8 (((rd x6_4 x76_5) / 16777216) % 256), .int .u8 (((rd x6_4 x76_5) / 65536) % 256), .int .u8 (((rd x6_4 x76_5) / 256) % 256), .int .u8 ((rd x6_4 x76_5) % 256)]) (ok := fun _ => True) (okp := fun _ => True) ?hr ?hp (fun _ hk => hk) trivial (Below.refl _ _) (Nat.le_refl _) (by simp) ?_; (case hd => rfl); (case hg => rfl); (case hr => first | (go_simp; done) | (go_simp; rfl)); (case hp => exact (Reps.one (show Kd.M (Kd.int .u8) _ _ _ (((rd x6_4 x76_5) / 16777216) % 256) [.int .u8 (((rd x6_4 x76_5) / 16777216) % 256)] from rfl) (Reps.one (show Kd.M (Kd.int .u8) _ _ _ (((rd x6_4 x76_5) / 65536) % 256) [.int .u8 (((rd x6_4 x76_5) / 65536) % 256)] from rfl) (Reps.one (show Kd.M (Kd.int .u8) _ _ _ (((rd x6_4 x76_5) / 256) % 256) [.int .u8 (((rd x6_4 x76_5) / 256) % 256)] from rfl) (Reps.one (show Kd.M (Kd.int .u8) _ _ _ ((rd x6_4 x76_5) % 256) [.int .u8 ((rd x6_4 x76_5) % 256)] from rfl) (Reps.none _ _)))))); intro v224 w45 ho46 hb hg_ hnew_; clear hg_ hnew_; (first | rw [← Ny223.out] at ho46 | (simp only [Int.reduceToNat] at ho46; rw [← Ny223.out] at ho46)); have n0_ := Aside0.mk (Kd.R_elder' (by (with_reducible repeat (first | apply Kd.R_alloc | apply Kd.R_drewN | apply Kd.R_drew)); exact HO_12.out) (Kd.R_base ho46) hb); have n1_ := Aside0.mk (Kd.R_below (by (with_reducible repeat (first | apply Kd.R_alloc | apply Kd.R_drewN | apply Kd.R_drew)); exact HO_74.out) hb); have n2_ := Aside0.mk (Kd.R_lower (Kd.R_new' ho46 (Kd.R_lt (by (with_reducible repeat (first | apply Kd.R_alloc | apply Kd.R_drewN | apply Kd.R_drew)); exact HO_12.out))) (below_size (by repeat (first | (with_reducible first | exact HB.out | apply below_alloc | apply pw_below_drewN | apply below_drew1) | exact HB.out)))); have n3_ := Aside0.mk (below_step (by repeat (first | (with_reducible first | exact HB.out | apply below_alloc | apply pw_below_drewN | apply below_drew1) | exact HB.out)) hb); clear HO_12; clear HO_74; clear HB; have HO_12 := n0_; have HO_74 := n1_; have HO225 := n2_; have HB := n3_; clear n0_ n1_ n2_ n3_; clear hb ho46; obtain ⟨Ao48, co48, eo48⟩ := Kd.R_slice HO225.out; subst eo48) | ((with_reducible refine gate_builtin (b := .append) (xs := #[.tmp 80, .tmp 92]) rfl ?_); at_builtin; refine Kd.R_append_rows (Kd.int .u8) (w0 := w) w.heap.size rfl (.tmp 80) (.tmp 92) 28 5 (.int .u8 0) 1 rfl Try.underlying28 info5 rfl (by decide) (by omega) u12 x12_5 y223 _ _ _ (fun k_ => some k_ ≠ (.slice Ao48 y223.length co48 : Value).ownBlock) (fun _ => False) rfl rfl ?aO ?aR (fun _ _ h => h) (fun _ h => h.elim) ?aF ?aB ?aS ?aL ?_; (case aR => repeat (first | exact (Kd.R_reads' HO225.out).2.2 | (with_reducible refine Kd.C_alloc ?_ _) | (with_reducible refine Kd.C_drewN ?_ _) | (with_reducible refine Kd.C_drew ?_))); (case aB => exact (by repeat (first | (with_reducible first | exact HB.out | apply below_alloc | apply pw_below_drewN | apply below_drew1) | exact HB.out))); (case aF => exact (fun k_ hk => Kd.fresh' (Kd.R_lt (by (with_reducible repeat (first | apply Kd.R_alloc | apply Kd.R_drewN | apply Kd.R_drew)); exact HO225.out)) k_ hk)); (case aO => exact (by (with_reducible repeat (first | apply Kd.R_alloc | apply Kd.R_drewN | apply Kd.R_drew)); exact Kd.R_mono HO_12.out (fun _ hk => hk.2))); (case aS => exact (below_size (by repeat (first | (with_reducible first | exact HB.out | apply below_alloc | apply pw_below_drewN | apply below_drew1) | exact HB.out)))); (case aL => have := LMc44.out; omega); intro v227 w47 ho hb hg hat; rw [← Ny226.out] at ho; have n0_ := Aside0.mk (Kd.R_over' (by (with_reducible repeat (first | apply Kd.R_alloc | apply Kd.R_drewN | apply Kd.R_drew)); exact HO_74.out) (Kd.R_typed (by (with_reducible repeat (first | apply Kd.R_alloc | apply Kd.R_drewN | apply Kd.R_drew)); exact HO_12.out)) (by decide) hg); have n1_ := Aside0.mk (Kd.R_after (ok := (fun _ => True)) (by (with_reducible repeat (first | apply Kd.R_alloc | apply Kd.R_drewN | apply Kd.R_drew)); exact HO225.out) hg hat); have n2_ := Aside0.mk (hb); have n3_ := Aside0.mk (ho); clear HO_74; clear HO225; clear HB; clear HO_12; have HO_74 := n0_; have HO225 := n1_; have HB := n2_; have HO228 := n3_; clear n0_ n1_ n2_ n3_; clear ho hb hg hat))
                                            go_roundg k5
                                            case measure => have := HK1.out; have := HJ5.out; have := HK3.out; have := HK4.out; have := HK5.out; omega
                                            case rel => exact ⟨(y226), (wrap64 (x76_5 + 1)), (by first | rfl | (simp; done) | (simp [*]; done)), H', ⟨by have := HK1.out; have := HJ5.out; have := HK3.out; have := HK4.out; have := HK5.out; omega⟩, ⟨by (try simp only [hl9_3]); (with_reducible repeat (first | apply Kd.R_alloc | apply Kd.R_drewN | apply Kd.R_drew)); exact Kd.R_mono HO228.out (fun _ hk => trivial)⟩, ⟨by (try simp only [hl9_3]); (with_reducible repeat (first | apply Kd.R_alloc | apply Kd.R_drewN | apply Kd.R_drew)); exact HO_74.out⟩, ⟨by repeat (first | (with_reducible first | exact HB.out | apply below_alloc | apply pw_below_drewN | apply below_drew1) | exact HB.out)⟩⟩
                                          · rw [if_neg c44] at H
                                            exact absurd H (by simp)
                                        · rw [if_neg c43] at H
                                          exact absurd H (by simp)
                                      · rw [if_neg c42] at H
                                        exact absurd H (by simp)
                                    · rw [if_neg c41] at H
                                      have c41b0 : decide (x76_5 < (x6_4.length : Int)) = false := decide_eq_false c41
                                      clear c41
                                      obtain rfl := Option.some.inj H
                                      have hcv49 := own_string (P := Try.prog) Try.underlying28 Try.underlying5 Try.underlying9 (Kd.own_of_R HO_12.out)
                                      go_wp2
                                      go_ret
                                      exact ⟨by first | rfl | (simp [errW_none, errW_some] <;> rfl) | (simp only [← hji10]; first | rfl | (simp [errW_none, errW_some] <;> rfl)) | (simp [*, errW_none, errW_some] <;> rfl), by repeat (first | (with_reducible first | exact HB.out | apply below_alloc | apply pw_below_drewN | apply below_drew1) | exact HB.out)⟩
                        · rw [if_neg c29] at H
                          exact absurd H (by simp)
                · rw [if_neg c13] at H
                  exact absurd H (by simp)
              · rw [if_neg c12] at H
                exact absurd H (by simp)
            · rw [if_neg c11] at H
              exact absurd H (by simp)

end Go.Proofs.Ytpiakeejfggocab.Q
