-- Written by a program of this session (wip/prn.py) out of the translation, for the seat Ytpiakeejfggocab. Not trusted: Lean checks it.
import Derived.Test.YtpiakeejfggocabQx0
namespace Go.Proofs.Ytpiakeejfggocab.Q
open Go.RowKit Go.Proofs.YtpiakeejfggocabW.PrintWords Go.Proofs.YtpiakeejfggocabW.PrintLast Go.Proofs.YtpiakeejfggocabW.PrintMore
attribute [local go_sem] max2_int min2_int max_two min_two max_three min_three max_four min_four   -- for this text's walks alone
set_option linter.unusedVariables false
set_option linter.unusedSimpArgs false

/-! ### certpathmade_Few: function 8 -/
def certpathmade_Few.l0 : Nat → Int → List ByteArray → Int → Int → Option (Bool)
  | 0, _, _, _, _ => none
  | k + 1, x2, x13, x14, x15 => if x15 < x14 then (if 0 ≤ x15 then (if x15 < (x13.length : Int) then (if ((rdOf ByteArray.empty x13 x15).size : Int) > x2 then (some false) else (certpathmade_Few.l0 k x2 x13 x14 (wrap64 (x15 + 1)))) else (none)) else (none)) else (some true)
def certpathmade_Few.f (k : Nat) (l0 : List ByteArray) (a1 : Int) (a2 : Int) : Option (Bool) := if (l0.length : Int) > a1 then (some false) else (certpathmade_Few.l0 k a2 l0 (l0.length : Int) 0)
theorem certpathmade_Few.mono_l : ∀ k, (∀ y0 y1 y2 y3, LeO (certpathmade_Few.l0 k y0 y1 y2 y3) (certpathmade_Few.l0 (k + 1) y0 y1 y2 y3))
  | 0 => fun _ _ _ _ r h => by simp [certpathmade_Few.l0] at h
  | k + 1 => by
    have ih0 := certpathmade_Few.mono_l k
    · intro y0 y1 y2 y3
      unfold certpathmade_Few.l0
      repeat' first
      | (with_reducible exact ih0 _ _ _ _)
      | (with_reducible exact LeO.refl _)
      | (with_reducible exact LeO.none _)
      | (with_reducible refine LeO.ite ?_ ?_)
      | (with_reducible refine LeO.bind ?_ (fun _ => ?_))
      | exact ih0 _ _ _ _
      | exact LeO.none _
      | refine LeO.ite ?_ ?_
      | refine LeO.bind ?_ (fun _ => ?_)
theorem certpathmade_Few.mono : ∀ a0 a1 a2 k, LeO (certpathmade_Few.f k a0 a1 a2) (certpathmade_Few.f (k + 1) a0 a1 a2) := by
  intro a0 a1 a2 k
  have ih0 := certpathmade_Few.mono_l k
  unfold certpathmade_Few.f
  repeat' first
      | (with_reducible exact ih0 _ _ _ _)
      | (with_reducible exact LeO.refl _)
      | (with_reducible exact LeO.none _)
      | (with_reducible refine LeO.ite ?_ ?_)
      | (with_reducible refine LeO.bind ?_ (fun _ => ?_))
      | exact ih0 _ _ _ _
      | exact LeO.none _
      | refine LeO.ite ?_ ?_
      | refine LeO.bind ?_ (fun _ => ?_)
set_option maxHeartbeats 8000000 in
set_option maxRecDepth 100000 in
theorem certpathmade_Few.calls (k : Nat) (A0 : Option Addr) (c0 : Nat) (l0 : List ByteArray) (a1 : Int) (a2 : Int) (r : Bool) (w : World) (hr0 : Kd.C Kd.string w A0 l0.length l0) (hc0 : l0.length ≤ c0) (h : certpathmade_Few.f k l0 a1 a2 = some r) :
    Calls Try.prog 8 #[.slice A0 l0.length c0, .int .i64 a1, .int .i64 a2] w fun e w' => e = .returned (.bool r) ∧ Drawn0 w w' := by
  have HR0 := Aside0.mk hr0
  have HC0 := Aside0.mk hc0
  clear hr0 hc0
  have H : (if (l0.length : Int) > a1 then (some false) else (certpathmade_Few.l0 k a2 l0 (l0.length : Int) 0)) = some r := h
  clear h
  by_cases c4 : (l0.length : Int) > a1
  · rw [if_pos c4] at H
    have c4b0 : decide (a1 < (l0.length : Int)) = true := decide_eq_true c4
    clear c4
    obtain rfl := Option.some.inj H
    go_enter Try.func8, Try.ntmps8
    go_wp2
    go_ret
    exact ⟨by first | rfl | (simp; done) | (simp [*]; done), by repeat (first | exact Drawn0.refl _ | apply Drawn0.step)⟩
  · rw [if_neg c4] at H
    have c4b0 : decide (a1 < (l0.length : Int)) = false := decide_eq_false c4
    clear c4
    have H' := Aside0.mk H
    clear H
    go_enter Try.func8, Try.ntmps8
    go_wp2
    go_loopg [15] k (fun kq v15 w' => ∃ (x15_1 : Int), v15 = .int .i64 x15_1 ∧ Aside0 (certpathmade_Few.l0 kq a2 l0 (l0.length : Int) x15_1 = some r) ∧ Aside0 (kq ≤ k) ∧ Drawn0 w w')
    case atStart => exact ⟨(0), (by first | rfl | (simp; done) | (simp [*]; done)), H', ⟨Nat.le_refl _⟩, by repeat (first | exact Drawn0.refl _ | apply Drawn0.step)⟩
    case round =>
      clear H'
      try clear p2
      try clear c4
      try clear c4b0
      obtain ⟨x15_1, rfl, HA, HK1, ⟨m1, rfl⟩⟩ := hrel
      cases gk with
      | zero => exact absurd HA.out (by simp [certpathmade_Few.l0])
      | succ k1 =>
        have H := HA.out
        clear HA
        simp only [certpathmade_Few.l0] at H
        by_cases c5 : x15_1 < (l0.length : Int)
        · rw [if_pos c5] at H
          have c5b0 : decide (x15_1 < (l0.length : Int)) = true := decide_eq_true c5
          clear c5
          by_cases c6 : 0 ≤ x15_1
          · rw [if_pos c6] at H
            have c6b0 : decide (0 ≤ x15_1) = true := decide_eq_true c6
            clear c6
            by_cases c7 : x15_1 < (l0.length : Int)
            · rw [if_pos c7] at H
              have c7b0 : decide (x15_1 < (l0.length : Int)) = true := decide_eq_true c7
              clear c7
              by_cases c8 : ((rdOf ByteArray.empty l0 x15_1).size : Int) > a2
              · rw [if_pos c8] at H
                have c8b0 : decide (a2 < ((rdOf ByteArray.empty l0 x15_1).size : Int)) = true := decide_eq_true c8
                clear c8
                obtain rfl := Option.some.inj H
                have p101 : 0 ≤ (x15_1 : Int) := of_decide_eq_true (by first | (with_reducible assumption) | assumption)
                have q101 : x15_1 < (l0.length : Int) := of_decide_eq_true (by first | (with_reducible assumption) | assumption)
                obtain ⟨ad101, e101, hx101_0⟩ := Kd.at_string HR0.out x15_1 p101 q101
                cases e101
                replace p101 := eq_true p101
                replace q101 := eq_true q101
                go_wp2
                go_ret
                exact ⟨by first | rfl | (simp; done) | (simp [*]; done), by repeat (first | exact Drawn0.refl _ | apply Drawn0.step)⟩
              · rw [if_neg c8] at H
                have c8b0 : decide (a2 < ((rdOf ByteArray.empty l0 x15_1).size : Int)) = false := decide_eq_false c8
                clear c8
                have H' := Aside0.mk H
                clear H
                have p101 : 0 ≤ (x15_1 : Int) := of_decide_eq_true (by first | (with_reducible assumption) | assumption)
                have q101 : x15_1 < (l0.length : Int) := of_decide_eq_true (by first | (with_reducible assumption) | assumption)
                obtain ⟨ad101, e101, hx101_0⟩ := Kd.at_string HR0.out x15_1 p101 q101
                cases e101
                replace p101 := eq_true p101
                replace q101 := eq_true q101
                go_wp2
                go_roundg k1
                case measure => have := HK1.out; omega
                case rel => exact ⟨(wrap64 (x15_1 + 1)), (by first | rfl | (simp; done) | (simp [*]; done)), H', ⟨by have := HK1.out; omega⟩, by repeat (first | exact Drawn0.refl _ | apply Drawn0.step)⟩
            · rw [if_neg c7] at H
              exact absurd H (by simp)
          · rw [if_neg c6] at H
            exact absurd H (by simp)
        · rw [if_neg c5] at H
          have c5b0 : decide (x15_1 < (l0.length : Int)) = false := decide_eq_false c5
          clear c5
          obtain rfl := Option.some.inj H
          go_wp2
          go_ret
          exact ⟨by first | rfl | (simp; done) | (simp [*]; done), by repeat (first | exact Drawn0.refl _ | apply Drawn0.step)⟩

/-- A state of type 39 at block g of W; what its slices lead to came in by w0. -/
def IsS39 (w0 W : World) (g : Nat) (f0 : Int) (f1 : Int) (f2 : Int) (f3 : Int) (f4 : Int) (f5 : Int) (f6 : Int) (f7 : Int) (f8 : List Int) (f9 : Int) : Prop := ∃ A8 c8, W.heap[g]? = some (.cells #[.int .u32 f0, .int .u32 f1, .int .u32 f2, .int .u32 f3, .int .u32 f4, .int .u32 f5, .int .u32 f6, .int .u32 f7, .slice A8 f8.length c8, .int .i64 f9] 39 (0, 0)) ∧ w0.heap.size ≤ g ∧ Kd.C (Kd.int .u8) w0 A8 f8.length f8
theorem IsS39.grown {w0 W : World} {g : Nat} {f0 : Int} {f1 : Int} {f2 : Int} {f3 : Int} {f4 : Int} {f5 : Int} {f6 : Int} {f7 : Int} {f8 : List Int} {f9 : Int} {W1 : World} {row : Option Nat} (h : IsS39 w0 W g f0 f1 f2 f3 f4 f5 f6 f7 f8 f9) (hw : W.grownBy W1 row) (hne : some g ≠ row) : IsS39 w0 W1 g f0 f1 f2 f3 f4 f5 f6 f7 f8 f9 := by
  obtain ⟨A8, c8, hb, hg, hr8⟩ := h
  exact ⟨A8, c8, blk_grown hb hw hne, hg, hr8⟩
theorem IsS39.own_neN {w0 W : World} {g : Nat} {f0 : Int} {f1 : Int} {f2 : Int} {f3 : Int} {f4 : Int} {f5 : Int} {f6 : Int} {f7 : Int} {f8 : List Int} {f9 : Int} {α : Type} {d : Kd α} {e : Nat} {base : Nat} {ok : Nat → Prop} {v : Value} {xs : List α} (h : IsS39 w0 W g f0 f1 f2 f3 f4 f5 f6 f7 f8 f9) (ho : Kd.N d e W base ok v xs) (ht : e ≠ 39) : some g ≠ v.ownBlock := by
  obtain ⟨A8, c8, hb, hg, hr8⟩ := h
  exact Kd.N_ne ho hb ht
theorem IsS39.fresh {w0 W : World} {g : Nat} {f0 : Int} {f1 : Int} {f2 : Int} {f3 : Int} {f4 : Int} {f5 : Int} {f6 : Int} {f7 : Int} {f8 : List Int} {f9 : Int} (h : IsS39 w0 W g f0 f1 f2 f3 f4 f5 f6 f7 f8 f9) : ∀ k, W.heap.size ≤ k → k ≠ g := by
  obtain ⟨A8, c8, hb, hg, hr8⟩ := h
  exact Kd.freshB hb
theorem IsS39.kept {w0 W : World} {g : Nat} {f0 : Int} {f1 : Int} {f2 : Int} {f3 : Int} {f4 : Int} {f5 : Int} {f6 : Int} {f7 : Int} {f8 : List Int} {f9 : Int} {W1 : World} {S : Nat → Prop} (h : IsS39 w0 W g f0 f1 f2 f3 f4 f5 f6 f7 f8 f9) (hk : Kept W W1 S) (hne : ¬ S g) : IsS39 w0 W1 g f0 f1 f2 f3 f4 f5 f6 f7 f8 f9 := by
  obtain ⟨A8, c8, hb, hg, hr8⟩ := h
  exact ⟨A8, c8, blk_kept hb hk hne, hg, hr8⟩
theorem IsS39.below {w0 W : World} {g : Nat} {f0 : Int} {f1 : Int} {f2 : Int} {f3 : Int} {f4 : Int} {f5 : Int} {f6 : Int} {f7 : Int} {f8 : List Int} {f9 : Int} {W1 : World} (h : IsS39 w0 W g f0 f1 f2 f3 f4 f5 f6 f7 f8 f9) (hw : Below W.heap.size W W1) : IsS39 w0 W1 g f0 f1 f2 f3 f4 f5 f6 f7 f8 f9 := h.grown (grown_of_below hw none) (by simp)
theorem IsS39.alloc {w0 W : World} {g : Nat} {f0 : Int} {f1 : Int} {f2 : Int} {f3 : Int} {f4 : Int} {f5 : Int} {f6 : Int} {f7 : Int} {f8 : List Int} {f9 : Int} (h : IsS39 w0 W g f0 f1 f2 f3 f4 f5 f6 f7 f8 f9) (o : Obj) : IsS39 w0 (W.alloc o) g f0 f1 f2 f3 f4 f5 f6 f7 f8 f9 := h.below (below_alloc (Below.refl _ _) o)
theorem IsS39.drewN {w0 W : World} {g : Nat} {f0 : Int} {f1 : Int} {f2 : Int} {f3 : Int} {f4 : Int} {f5 : Int} {f6 : Int} {f7 : Int} {f8 : List Int} {f9 : Int} (h : IsS39 w0 W g f0 f1 f2 f3 f4 f5 f6 f7 f8 f9) (m : Nat) : IsS39 w0 (W.drewN m) g f0 f1 f2 f3 f4 f5 f6 f7 f8 f9 := h
theorem IsS39.drew {w0 W : World} {g : Nat} {f0 : Int} {f1 : Int} {f2 : Int} {f3 : Int} {f4 : Int} {f5 : Int} {f6 : Int} {f7 : Int} {f8 : List Int} {f9 : Int} (h : IsS39 w0 W g f0 f1 f2 f3 f4 f5 f6 f7 f8 f9) : IsS39 w0 W.drew g f0 f1 f2 f3 f4 f5 f6 f7 f8 f9 := h
theorem IsS39.at_ {w0 W : World} {g : Nat} {f0 : Int} {f1 : Int} {f2 : Int} {f3 : Int} {f4 : Int} {f5 : Int} {f6 : Int} {f7 : Int} {f8 : List Int} {f9 : Int} {w' : World} {m : Nat} (hq : W.drewN m = w') (h : IsS39 w0 W g f0 f1 f2 f3 f4 f5 f6 f7 f8 f9) : IsS39 w0 w' g f0 f1 f2 f3 f4 f5 f6 f7 f8 f9 := by subst hq; exact IsS39.drewN h m
theorem IsS39.apart {w0 W : World} {g : Nat} {f0 : Int} {f1 : Int} {f2 : Int} {f3 : Int} {f4 : Int} {f5 : Int} {f6 : Int} {f7 : Int} {f8 : List Int} {f9 : Int} {α : Type} {d : Kd α} {e : Nat} {base : Nat} {ok : Nat → Prop} {v : Value} {xs : List α} (h : IsS39 w0 W g f0 f1 f2 f3 f4 f5 f6 f7 f8 f9) (ho : d.R e W base ok v xs) (ht : ∀ q, q ∈ e :: d.E → q ≠ 39) : d.R e W base (fun k => ok k ∧ k ≠ g) v xs := by
  obtain ⟨A8, c8, hb, hg, hr8⟩ := h
  exact Kd.R_types ho hb ht
theorem IsS39.own_ne {w0 W : World} {g : Nat} {f0 : Int} {f1 : Int} {f2 : Int} {f3 : Int} {f4 : Int} {f5 : Int} {f6 : Int} {f7 : Int} {f8 : List Int} {f9 : Int} {α : Type} {d : Kd α} {e : Nat} {base : Nat} {ok : Nat → Prop} {v : Value} {xs : List α} (h : IsS39 w0 W g f0 f1 f2 f3 f4 f5 f6 f7 f8 f9) (ho : d.R e W base ok v xs) (ht : e ≠ 39) : some g ≠ v.ownBlock := by
  obtain ⟨A8, c8, hb, hg, hr8⟩ := h
  exact Kd.R_ne ho hb ht
theorem IsS39.apartQ {w0 W : World} {g : Nat} {f0 : Int} {f1 : Int} {f2 : Int} {f3 : Int} {f4 : Int} {f5 : Int} {f6 : Int} {f7 : Int} {f8 : List Int} {f9 : Int} {α : Type} {d : Kd α} {e : Nat} {base : Nat} {ok : Nat → Prop} {v : Value} {xs : List α} (h : IsS39 w0 W g f0 f1 f2 f3 f4 f5 f6 f7 f8 f9) (ho : d.Q e W base ok v xs) (ht : ∀ q, q ∈ e :: d.E → q ≠ 39) : d.Q e W base (fun k => ok k ∧ k ≠ g) v xs := by
  obtain ⟨A8, c8, hb, hg, hr8⟩ := h
  exact Kd.Q_types ho hb ht
theorem IsS39.own_neQ {w0 W : World} {g : Nat} {f0 : Int} {f1 : Int} {f2 : Int} {f3 : Int} {f4 : Int} {f5 : Int} {f6 : Int} {f7 : Int} {f8 : List Int} {f9 : Int} {α : Type} {d : Kd α} {e : Nat} {base : Nat} {ok : Nat → Prop} {v : Value} {xs : List α} (h : IsS39 w0 W g f0 f1 f2 f3 f4 f5 f6 f7 f8 f9) (ho : d.Q e W base ok v xs) (ht : e ≠ 39) : some g ≠ v.ownBlock := by
  obtain ⟨A8, c8, hb, hg, hr8⟩ := h
  exact Kd.Q_ne ho hb ht
theorem IsS39.apartS {w0 W : World} {g : Nat} {f0 : Int} {f1 : Int} {f2 : Int} {f3 : Int} {f4 : Int} {f5 : Int} {f6 : Int} {f7 : Int} {f8 : List Int} {f9 : Int} {α : Type} {d : Kd α} {e : Nat} {base : Nat} {ok : Nat → Prop} {v : Value} {xs : List α} (h : IsS39 w0 W g f0 f1 f2 f3 f4 f5 f6 f7 f8 f9) (ho : d.S e W base ok v xs) (ht : ∀ q, q ∈ e :: d.E → q ≠ 39) : d.S e W base (fun k => ok k ∧ k ≠ g) v xs := by
  obtain ⟨A8, c8, hb, hg, hr8⟩ := h
  exact Kd.S_types ho hb ht
theorem IsS39.own_neS {w0 W : World} {g : Nat} {f0 : Int} {f1 : Int} {f2 : Int} {f3 : Int} {f4 : Int} {f5 : Int} {f6 : Int} {f7 : Int} {f8 : List Int} {f9 : Int} {α : Type} {d : Kd α} {e : Nat} {base : Nat} {ok : Nat → Prop} {v : Value} {xs : List α} (h : IsS39 w0 W g f0 f1 f2 f3 f4 f5 f6 f7 f8 f9) (ho : d.S e W base ok v xs) (ht : e ≠ 39) : some g ≠ v.ownBlock := by
  obtain ⟨A8, c8, hb, hg, hr8⟩ := h
  exact Kd.S_ne ho hb ht
theorem IsS39.lt {w0 W : World} {g : Nat} {f0 : Int} {f1 : Int} {f2 : Int} {f3 : Int} {f4 : Int} {f5 : Int} {f6 : Int} {f7 : Int} {f8 : List Int} {f9 : Int} (h : IsS39 w0 W g f0 f1 f2 f3 f4 f5 f6 f7 f8 f9) : g < W.heap.size := by
  obtain ⟨A8, c8, hb, hg, hr8⟩ := h
  exact blk_lt hb
theorem IsS39.ge {w0 W : World} {g : Nat} {f0 : Int} {f1 : Int} {f2 : Int} {f3 : Int} {f4 : Int} {f5 : Int} {f6 : Int} {f7 : Int} {f8 : List Int} {f9 : Int} (h : IsS39 w0 W g f0 f1 f2 f3 f4 f5 f6 f7 f8 f9) : w0.heap.size ≤ g := by
  obtain ⟨A8, c8, hb, hg, hr8⟩ := h
  exact hg
theorem IsS39.ne_blk {w0 W : World} {g : Nat} {f0 : Int} {f1 : Int} {f2 : Int} {f3 : Int} {f4 : Int} {f5 : Int} {f6 : Int} {f7 : Int} {f8 : List Int} {f9 : Int} {a : Nat} {cs : Array Value} {t : TypeId} {fr : Nat × Nat} (h : IsS39 w0 W g f0 f1 f2 f3 f4 f5 f6 f7 f8 f9) (hb2 : W.heap[a]? = some (.cells cs t fr)) (ht : t ≠ 39) : g ≠ a := by
  obtain ⟨A8, c8, hb, hg, hr8⟩ := h
  rintro rfl
  rw [hb] at hb2
  injection hb2 with hb2
  injection hb2 with _ ht2
  exact ht ht2.symm
theorem IsS39.far {w0 W : World} {g : Nat} {f0 : Int} {f1 : Int} {f2 : Int} {f3 : Int} {f4 : Int} {f5 : Int} {f6 : Int} {f7 : Int} {f8 : List Int} {f9 : Int} {p : Addr} (h : IsS39 w0 W g f0 f1 f2 f3 f4 f5 f6 f7 f8 f9) (hne : g ≠ p.block) (u : Value) : IsS39 w0 (W.setCell p u) g f0 f1 f2 f3 f4 f5 f6 f7 f8 f9 := by
  obtain ⟨A8, c8, hb, hg, hr8⟩ := h
  exact ⟨A8, c8, blk_far hb hne u, hg, hr8⟩
theorem cellS39_0 {W : World} {g : Nat} {A8 : Option Addr} {c8 : Nat} {f0 : Int} {f1 : Int} {f2 : Int} {f3 : Int} {f4 : Int} {f5 : Int} {f6 : Int} {f7 : Int} {f8 : List Int} {f9 : Int} (h : W.heap[g]? = some (.cells #[.int .u32 f0, .int .u32 f1, .int .u32 f2, .int .u32 f3, .int .u32 f4, .int .u32 f5, .int .u32 f6, .int .u32 f7, .slice A8 f8.length c8, .int .i64 f9] 39 (0, 0))) : W.cell? ⟨g, 0, none⟩ = some (.int .u32 f0) := (blk_cell h 0).trans rfl
theorem IsS39.set_0 {w0 W : World} {g : Nat} {f0 : Int} {f1 : Int} {f2 : Int} {f3 : Int} {f4 : Int} {f5 : Int} {f6 : Int} {f7 : Int} {f8 : List Int} {f9 : Int} (h : IsS39 w0 W g f0 f1 f2 f3 f4 f5 f6 f7 f8 f9) (x : Int) : IsS39 w0 (W.setCell ⟨g, 0, none⟩ (.int .u32 x)) g x f1 f2 f3 f4 f5 f6 f7 f8 f9 := by
  obtain ⟨A8, c8, hb, hg, hr8⟩ := h
  exact ⟨A8, c8, by simpa using blk_set hb 0 (.int .u32 x), hg, hr8⟩
theorem cellS39_1 {W : World} {g : Nat} {A8 : Option Addr} {c8 : Nat} {f0 : Int} {f1 : Int} {f2 : Int} {f3 : Int} {f4 : Int} {f5 : Int} {f6 : Int} {f7 : Int} {f8 : List Int} {f9 : Int} (h : W.heap[g]? = some (.cells #[.int .u32 f0, .int .u32 f1, .int .u32 f2, .int .u32 f3, .int .u32 f4, .int .u32 f5, .int .u32 f6, .int .u32 f7, .slice A8 f8.length c8, .int .i64 f9] 39 (0, 0))) : W.cell? ⟨g, 1, none⟩ = some (.int .u32 f1) := (blk_cell h 1).trans rfl
theorem IsS39.set_1 {w0 W : World} {g : Nat} {f0 : Int} {f1 : Int} {f2 : Int} {f3 : Int} {f4 : Int} {f5 : Int} {f6 : Int} {f7 : Int} {f8 : List Int} {f9 : Int} (h : IsS39 w0 W g f0 f1 f2 f3 f4 f5 f6 f7 f8 f9) (x : Int) : IsS39 w0 (W.setCell ⟨g, 1, none⟩ (.int .u32 x)) g f0 x f2 f3 f4 f5 f6 f7 f8 f9 := by
  obtain ⟨A8, c8, hb, hg, hr8⟩ := h
  exact ⟨A8, c8, by simpa using blk_set hb 1 (.int .u32 x), hg, hr8⟩
theorem cellS39_2 {W : World} {g : Nat} {A8 : Option Addr} {c8 : Nat} {f0 : Int} {f1 : Int} {f2 : Int} {f3 : Int} {f4 : Int} {f5 : Int} {f6 : Int} {f7 : Int} {f8 : List Int} {f9 : Int} (h : W.heap[g]? = some (.cells #[.int .u32 f0, .int .u32 f1, .int .u32 f2, .int .u32 f3, .int .u32 f4, .int .u32 f5, .int .u32 f6, .int .u32 f7, .slice A8 f8.length c8, .int .i64 f9] 39 (0, 0))) : W.cell? ⟨g, 2, none⟩ = some (.int .u32 f2) := (blk_cell h 2).trans rfl
theorem IsS39.set_2 {w0 W : World} {g : Nat} {f0 : Int} {f1 : Int} {f2 : Int} {f3 : Int} {f4 : Int} {f5 : Int} {f6 : Int} {f7 : Int} {f8 : List Int} {f9 : Int} (h : IsS39 w0 W g f0 f1 f2 f3 f4 f5 f6 f7 f8 f9) (x : Int) : IsS39 w0 (W.setCell ⟨g, 2, none⟩ (.int .u32 x)) g f0 f1 x f3 f4 f5 f6 f7 f8 f9 := by
  obtain ⟨A8, c8, hb, hg, hr8⟩ := h
  exact ⟨A8, c8, by simpa using blk_set hb 2 (.int .u32 x), hg, hr8⟩
theorem cellS39_3 {W : World} {g : Nat} {A8 : Option Addr} {c8 : Nat} {f0 : Int} {f1 : Int} {f2 : Int} {f3 : Int} {f4 : Int} {f5 : Int} {f6 : Int} {f7 : Int} {f8 : List Int} {f9 : Int} (h : W.heap[g]? = some (.cells #[.int .u32 f0, .int .u32 f1, .int .u32 f2, .int .u32 f3, .int .u32 f4, .int .u32 f5, .int .u32 f6, .int .u32 f7, .slice A8 f8.length c8, .int .i64 f9] 39 (0, 0))) : W.cell? ⟨g, 3, none⟩ = some (.int .u32 f3) := (blk_cell h 3).trans rfl
theorem IsS39.set_3 {w0 W : World} {g : Nat} {f0 : Int} {f1 : Int} {f2 : Int} {f3 : Int} {f4 : Int} {f5 : Int} {f6 : Int} {f7 : Int} {f8 : List Int} {f9 : Int} (h : IsS39 w0 W g f0 f1 f2 f3 f4 f5 f6 f7 f8 f9) (x : Int) : IsS39 w0 (W.setCell ⟨g, 3, none⟩ (.int .u32 x)) g f0 f1 f2 x f4 f5 f6 f7 f8 f9 := by
  obtain ⟨A8, c8, hb, hg, hr8⟩ := h
  exact ⟨A8, c8, by simpa using blk_set hb 3 (.int .u32 x), hg, hr8⟩
theorem cellS39_4 {W : World} {g : Nat} {A8 : Option Addr} {c8 : Nat} {f0 : Int} {f1 : Int} {f2 : Int} {f3 : Int} {f4 : Int} {f5 : Int} {f6 : Int} {f7 : Int} {f8 : List Int} {f9 : Int} (h : W.heap[g]? = some (.cells #[.int .u32 f0, .int .u32 f1, .int .u32 f2, .int .u32 f3, .int .u32 f4, .int .u32 f5, .int .u32 f6, .int .u32 f7, .slice A8 f8.length c8, .int .i64 f9] 39 (0, 0))) : W.cell? ⟨g, 4, none⟩ = some (.int .u32 f4) := (blk_cell h 4).trans rfl
theorem IsS39.set_4 {w0 W : World} {g : Nat} {f0 : Int} {f1 : Int} {f2 : Int} {f3 : Int} {f4 : Int} {f5 : Int} {f6 : Int} {f7 : Int} {f8 : List Int} {f9 : Int} (h : IsS39 w0 W g f0 f1 f2 f3 f4 f5 f6 f7 f8 f9) (x : Int) : IsS39 w0 (W.setCell ⟨g, 4, none⟩ (.int .u32 x)) g f0 f1 f2 f3 x f5 f6 f7 f8 f9 := by
  obtain ⟨A8, c8, hb, hg, hr8⟩ := h
  exact ⟨A8, c8, by simpa using blk_set hb 4 (.int .u32 x), hg, hr8⟩
theorem cellS39_5 {W : World} {g : Nat} {A8 : Option Addr} {c8 : Nat} {f0 : Int} {f1 : Int} {f2 : Int} {f3 : Int} {f4 : Int} {f5 : Int} {f6 : Int} {f7 : Int} {f8 : List Int} {f9 : Int} (h : W.heap[g]? = some (.cells #[.int .u32 f0, .int .u32 f1, .int .u32 f2, .int .u32 f3, .int .u32 f4, .int .u32 f5, .int .u32 f6, .int .u32 f7, .slice A8 f8.length c8, .int .i64 f9] 39 (0, 0))) : W.cell? ⟨g, 5, none⟩ = some (.int .u32 f5) := (blk_cell h 5).trans rfl
theorem IsS39.set_5 {w0 W : World} {g : Nat} {f0 : Int} {f1 : Int} {f2 : Int} {f3 : Int} {f4 : Int} {f5 : Int} {f6 : Int} {f7 : Int} {f8 : List Int} {f9 : Int} (h : IsS39 w0 W g f0 f1 f2 f3 f4 f5 f6 f7 f8 f9) (x : Int) : IsS39 w0 (W.setCell ⟨g, 5, none⟩ (.int .u32 x)) g f0 f1 f2 f3 f4 x f6 f7 f8 f9 := by
  obtain ⟨A8, c8, hb, hg, hr8⟩ := h
  exact ⟨A8, c8, by simpa using blk_set hb 5 (.int .u32 x), hg, hr8⟩
theorem cellS39_6 {W : World} {g : Nat} {A8 : Option Addr} {c8 : Nat} {f0 : Int} {f1 : Int} {f2 : Int} {f3 : Int} {f4 : Int} {f5 : Int} {f6 : Int} {f7 : Int} {f8 : List Int} {f9 : Int} (h : W.heap[g]? = some (.cells #[.int .u32 f0, .int .u32 f1, .int .u32 f2, .int .u32 f3, .int .u32 f4, .int .u32 f5, .int .u32 f6, .int .u32 f7, .slice A8 f8.length c8, .int .i64 f9] 39 (0, 0))) : W.cell? ⟨g, 6, none⟩ = some (.int .u32 f6) := (blk_cell h 6).trans rfl
theorem IsS39.set_6 {w0 W : World} {g : Nat} {f0 : Int} {f1 : Int} {f2 : Int} {f3 : Int} {f4 : Int} {f5 : Int} {f6 : Int} {f7 : Int} {f8 : List Int} {f9 : Int} (h : IsS39 w0 W g f0 f1 f2 f3 f4 f5 f6 f7 f8 f9) (x : Int) : IsS39 w0 (W.setCell ⟨g, 6, none⟩ (.int .u32 x)) g f0 f1 f2 f3 f4 f5 x f7 f8 f9 := by
  obtain ⟨A8, c8, hb, hg, hr8⟩ := h
  exact ⟨A8, c8, by simpa using blk_set hb 6 (.int .u32 x), hg, hr8⟩
theorem cellS39_7 {W : World} {g : Nat} {A8 : Option Addr} {c8 : Nat} {f0 : Int} {f1 : Int} {f2 : Int} {f3 : Int} {f4 : Int} {f5 : Int} {f6 : Int} {f7 : Int} {f8 : List Int} {f9 : Int} (h : W.heap[g]? = some (.cells #[.int .u32 f0, .int .u32 f1, .int .u32 f2, .int .u32 f3, .int .u32 f4, .int .u32 f5, .int .u32 f6, .int .u32 f7, .slice A8 f8.length c8, .int .i64 f9] 39 (0, 0))) : W.cell? ⟨g, 7, none⟩ = some (.int .u32 f7) := (blk_cell h 7).trans rfl
theorem IsS39.set_7 {w0 W : World} {g : Nat} {f0 : Int} {f1 : Int} {f2 : Int} {f3 : Int} {f4 : Int} {f5 : Int} {f6 : Int} {f7 : Int} {f8 : List Int} {f9 : Int} (h : IsS39 w0 W g f0 f1 f2 f3 f4 f5 f6 f7 f8 f9) (x : Int) : IsS39 w0 (W.setCell ⟨g, 7, none⟩ (.int .u32 x)) g f0 f1 f2 f3 f4 f5 f6 x f8 f9 := by
  obtain ⟨A8, c8, hb, hg, hr8⟩ := h
  exact ⟨A8, c8, by simpa using blk_set hb 7 (.int .u32 x), hg, hr8⟩
theorem cellS39_8 {W : World} {g : Nat} {A8 : Option Addr} {c8 : Nat} {f0 : Int} {f1 : Int} {f2 : Int} {f3 : Int} {f4 : Int} {f5 : Int} {f6 : Int} {f7 : Int} {f8 : List Int} {f9 : Int} (h : W.heap[g]? = some (.cells #[.int .u32 f0, .int .u32 f1, .int .u32 f2, .int .u32 f3, .int .u32 f4, .int .u32 f5, .int .u32 f6, .int .u32 f7, .slice A8 f8.length c8, .int .i64 f9] 39 (0, 0))) : W.cell? ⟨g, 8, none⟩ = some (.slice A8 f8.length c8) := (blk_cell h 8).trans rfl
theorem cellS39_9 {W : World} {g : Nat} {A8 : Option Addr} {c8 : Nat} {f0 : Int} {f1 : Int} {f2 : Int} {f3 : Int} {f4 : Int} {f5 : Int} {f6 : Int} {f7 : Int} {f8 : List Int} {f9 : Int} (h : W.heap[g]? = some (.cells #[.int .u32 f0, .int .u32 f1, .int .u32 f2, .int .u32 f3, .int .u32 f4, .int .u32 f5, .int .u32 f6, .int .u32 f7, .slice A8 f8.length c8, .int .i64 f9] 39 (0, 0))) : W.cell? ⟨g, 9, none⟩ = some (.int .i64 f9) := (blk_cell h 9).trans rfl
theorem IsS39.set_9 {w0 W : World} {g : Nat} {f0 : Int} {f1 : Int} {f2 : Int} {f3 : Int} {f4 : Int} {f5 : Int} {f6 : Int} {f7 : Int} {f8 : List Int} {f9 : Int} (h : IsS39 w0 W g f0 f1 f2 f3 f4 f5 f6 f7 f8 f9) (x : Int) : IsS39 w0 (W.setCell ⟨g, 9, none⟩ (.int .i64 x)) g f0 f1 f2 f3 f4 f5 f6 f7 f8 x := by
  obtain ⟨A8, c8, hb, hg, hr8⟩ := h
  exact ⟨A8, c8, by simpa using blk_set hb 9 (.int .i64 x), hg, hr8⟩
theorem IsS39.new (w0 W : World) (A8 : Option Addr) (c8 : Nat) (f0 : Int) (f1 : Int) (f2 : Int) (f3 : Int) (f4 : Int) (f5 : Int) (f6 : Int) (f7 : Int) (f8 : List Int) (f9 : Int) (hB : Below w0.heap.size w0 W) (hr8 : Kd.C (Kd.int .u8) w0 A8 f8.length f8) : IsS39 w0 (W.alloc (.cells #[.int .u32 f0, .int .u32 f1, .int .u32 f2, .int .u32 f3, .int .u32 f4, .int .u32 f5, .int .u32 f6, .int .u32 f7, .slice A8 f8.length c8, .int .i64 f9] 39)) W.heap.size f0 f1 f2 f3 f4 f5 f6 f7 f8 f9 := ⟨A8, c8, by simpa using heap_alloc_new W _, hB.size, hr8⟩

/-! ### hash_Start: function 14 -/
def hash_Start.f  : Option (Int × Int × Int × Int × Int × Int × Int × Int × List Int × Int) := some (0, 0, 0, 0, 0, 0, 0, 0, ([] : List Int), 0)
set_option maxHeartbeats 8000000 in
set_option maxRecDepth 100000 in
theorem hash_Start.calls  (r1 : Int) (r2 : Int) (r3 : Int) (r4 : Int) (r5 : Int) (r6 : Int) (r7 : Int) (r8 : Int) (r9 : List Int) (r10 : Int) (w0 w : World) (hB : Below w0.heap.size w0 w) (h : hash_Start.f  = some (r1, r2, r3, r4, r5, r6, r7, r8, r9, r10)) :
    Calls Try.prog 14 #[] w fun e w' => ∃ g_ : Nat, e = .returned (.pointer (some ⟨g_, 0, none⟩)) ∧ IsS39 w0 w' g_ r1 r2 r3 r4 r5 r6 r7 r8 r9 r10 ∧ Below w0.heap.size w0 w' ∧ Below w.heap.size w w' := by
  have hu39 := Try.underlying39
  have HBW := Aside0.mk (Below.refl w.heap.size w)
  have HW0 := Aside0.mk hB.size
  have HB := Aside0.mk hB
  clear hB
  have H : (some (0, 0, 0, 0, 0, 0, 0, 0, ([] : List Int), 0)) = some (r1, r2, r3, r4, r5, r6, r7, r8, r9, r10) := h
  clear h
  simp only [Option.some.injEq, Prod.mk.injEq] at H
  obtain ⟨rfl, rfl, rfl, rfl, rfl, rfl, rfl, rfl, rfl, rfl⟩ := H
  go_enter Try.func14, Try.ntmps14
  go_wp2_with (first | ((with_reducible refine gate_dst (N := 2) rfl ?_); refine box_event ?hg (N := 2) ?hd (cs := #[.int .u32 0, .int .u32 0, .int .u32 0, .int .u32 0, .int .u32 0, .int .u32 0, .int .u32 0, .int .u32 0, .slice none 0 0, .int .i64 0]) (t := 39) ?hr ?_; (case hd => rfl); (case hg => rfl); (case hr => first | (go_simp; done) | (go_simp; rfl)); intro gb102 hg w1 hbox hb; have n0_ := Aside0.mk (below_step HBW.out hb); have n1_ := Aside0.mk (below_step (by repeat (first | (with_reducible first | exact HB.out | apply below_alloc | apply pw_below_drewN | apply below_drew1) | exact HB.out)) hb); have n2_ := Aside0.mk (hbox); have n3_ := Aside0.mk ((by rw [hg]; exact (below_size (by repeat (first | (with_reducible first | exact HBW.out | apply below_alloc | apply pw_below_drewN | apply below_drew1) | exact HBW.out))) : w.heap.size ≤ gb102)); have n4_ := Aside0.mk ((Nat.le_trans HW0.out (by rw [hg]; exact (below_size (by repeat (first | (with_reducible first | exact HBW.out | apply below_alloc | apply pw_below_drewN | apply below_drew1) | exact HBW.out))) : w.heap.size ≤ gb102) : w0.heap.size ≤ gb102)); clear HBW; clear HB; have HBW := n0_; have HB := n1_; have BK102 := n2_; have GW102 := n3_; have GE102 := n4_; clear n0_ n1_ n2_ n3_ n4_; clear hb hbox hg))
  go_ret
  exact ⟨_, rfl, (show IsS39 w0 _ gb102 0 0 0 0 0 0 0 0 ([] : List Int) 0 from ⟨none, 0, by (with_reducible repeat (first | refine blk_drewN ?_ _ | refine blk_drew ?_ | refine blk_alloc ?_ _)); exact BK102.out, GE102.out, (Kd.C_nil _ _)⟩), by repeat (first | (with_reducible first | exact HB.out | apply below_alloc | apply pw_below_drewN | apply below_drew1 | refine below_set ?_ GE102.out) | exact HB.out), by repeat (first | (with_reducible first | exact HBW.out | apply below_alloc | apply pw_below_drewN | apply below_drew1 | refine below_set ?_ GW102.out) | exact HBW.out)⟩

end Go.Proofs.Ytpiakeejfggocab.Q
