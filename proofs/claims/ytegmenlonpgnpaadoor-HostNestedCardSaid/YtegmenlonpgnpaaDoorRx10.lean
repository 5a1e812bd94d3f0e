-- Written by a program of this session (wip/prn.py) out of the translation, for the seat YtegmenlonpgnpaaDoor. Not trusted: Lean checks it.
import Derived.Test.YtegmenlonpgnpaaDoorRx0
namespace Go.Proofs.YtegmenlonpgnpaaDoor.Q
open Go.RowKit Go.Proofs.YtegmenlonpgnpaaDoorW.PrintWords Go.Proofs.YtegmenlonpgnpaaDoorW.PrintLast Go.Proofs.YtegmenlonpgnpaaDoorW.PrintMore
attribute [local go_sem] max2_int min2_int max_two min_two max_three min_three max_four min_four   -- for this text's walks alone
set_option linter.unusedVariables false
set_option linter.unusedSimpArgs false

/-! ### certpathlaw08_dns: function 12 -/
mutual
def certpathlaw08_dns.l0 : Nat → List Int → ByteArray → Int → Option (ByteArray)
  | 0, _, _, _ => none
  | k + 1, x0, x3, x4 => if x4 < (x0.length : Int) then (certpathlaw08_dns.j1 k x0 x3 x4 (decide (x4 < 4))) else (certpathlaw08_dns.j1 k x0 x3 x4 false)
def certpathlaw08_dns.j1 : Nat → List Int → ByteArray → Int → Bool → Option (ByteArray)
  | 0, _, _, _, _ => none
  | k + 1, x0, x3, x4, x13 => if x13 = true then ((some (([(⟨#[97]⟩ : ByteArray), (⟨#[98]⟩ : ByteArray), (⟨#[65]⟩ : ByteArray), (⟨#[111, 114, 103]⟩ : ByteArray), (⟨#[120, 45, 121]⟩ : ByteArray)] : List ByteArray) : List ByteArray)).bind fun y210 => (if 0 ≤ x4 then (if x4 < (x0.length : Int) then (if 0 ≤ (Int.tmod (rd x0 x4) 5) then (if (Int.tmod (rd x0 x4) 5) < (y210.length : Int) then (if x3.toList = ([] : List UInt8) then (certpathlaw08_dns.l0 k x0 (rdOf ByteArray.empty y210 (Int.tmod (rd x0 x4) 5)) (wrap64 (x4 + 1))) else (if (rdOf ByteArray.empty y210 (Int.tmod (rd x0 x4) 5)).size + 1 ≤ 9223372036854775807 then (if ((rdOf ByteArray.empty y210 (Int.tmod (rd x0 x4) 5)) ++ (⟨#[46]⟩ : ByteArray)).size + x3.size ≤ 9223372036854775807 then (certpathlaw08_dns.l0 k x0 (((rdOf ByteArray.empty y210 (Int.tmod (rd x0 x4) 5)) ++ (⟨#[46]⟩ : ByteArray)) ++ x3) (wrap64 (x4 + 1))) else (none)) else (none))) else (none)) else (none)) else (none)) else (none))) else (some x3)
end
def certpathlaw08_dns.f (k : Nat) (l0 : List Int) : Option (ByteArray) := certpathlaw08_dns.l0 k l0 (⟨#[]⟩ : ByteArray) 0
theorem certpathlaw08_dns.mono_l : ∀ k, (∀ y0 y1 y2, LeO (certpathlaw08_dns.l0 k y0 y1 y2) (certpathlaw08_dns.l0 (k + 1) y0 y1 y2)) ∧ (∀ y0 y1 y2 y3, LeO (certpathlaw08_dns.j1 k y0 y1 y2 y3) (certpathlaw08_dns.j1 (k + 1) y0 y1 y2 y3))
  | 0 => ⟨fun _ _ _ r h => by simp [certpathlaw08_dns.l0] at h, fun _ _ _ _ r h => by simp [certpathlaw08_dns.j1] at h⟩
  | k + 1 => by
    obtain ⟨ih0, ih1⟩ := certpathlaw08_dns.mono_l k
    refine ⟨?_, ?_⟩
    · intro y0 y1 y2
      unfold certpathlaw08_dns.l0
      repeat' first
      | (with_reducible exact ih0 _ _ _)
      | (with_reducible exact ih1 _ _ _ _)
      | (with_reducible exact LeO.refl _)
      | (with_reducible exact LeO.none _)
      | (with_reducible refine LeO.ite ?_ ?_)
      | (with_reducible refine LeO.bind ?_ (fun _ => ?_))
      | exact ih0 _ _ _
      | exact ih1 _ _ _ _
      | exact LeO.none _
      | refine LeO.ite ?_ ?_
      | refine LeO.bind ?_ (fun _ => ?_)
    · intro y0 y1 y2 y3
      unfold certpathlaw08_dns.j1
      repeat' first
      | (with_reducible exact ih0 _ _ _)
      | (with_reducible exact ih1 _ _ _ _)
      | (with_reducible exact LeO.refl _)
      | (with_reducible exact LeO.none _)
      | (with_reducible refine LeO.ite ?_ ?_)
      | (with_reducible refine LeO.bind ?_ (fun _ => ?_))
      | exact ih0 _ _ _
      | exact ih1 _ _ _ _
      | exact LeO.none _
      | refine LeO.ite ?_ ?_
      | refine LeO.bind ?_ (fun _ => ?_)
theorem certpathlaw08_dns.mono : ∀ a0 k, LeO (certpathlaw08_dns.f k a0) (certpathlaw08_dns.f (k + 1) a0) := by
  intro a0 k
  obtain ⟨ih0, ih1⟩ := certpathlaw08_dns.mono_l k
  unfold certpathlaw08_dns.f
  repeat' first
      | (with_reducible exact ih0 _ _ _)
      | (with_reducible exact ih1 _ _ _ _)
      | (with_reducible exact LeO.refl _)
      | (with_reducible exact LeO.none _)
      | (with_reducible refine LeO.ite ?_ ?_)
      | (with_reducible refine LeO.bind ?_ (fun _ => ?_))
      | exact ih0 _ _ _
      | exact ih1 _ _ _ _
      | exact LeO.none _
      | refine LeO.ite ?_ ?_
      | refine LeO.bind ?_ (fun _ => ?_)
set_option maxHeartbeats 8000000 in
set_option maxRecDepth 100000 in
theorem certpathlaw08_dns.calls (k : Nat) (A0 : Option Addr) (c0 : Nat) (l0 : List Int) (r : ByteArray) (w : World) (hG_ : Ext.G w) (hr0 : Kd.C (Kd.int .u8) w A0 l0.length l0) (hc0 : l0.length ≤ c0) (h : certpathlaw08_dns.f k l0 = some r) :
    Calls Tryd.prog 12 #[.slice A0 l0.length c0] w fun e w' => e = .returned (.string r) ∧ Below w.heap.size w w' := by
  have HR0 := Aside0.mk hr0
  have HC0 := Aside0.mk hc0
  clear hr0 hc0
  have HB := Aside0.mk (Below.refl w.heap.size w)
  have H : (certpathlaw08_dns.l0 k l0 (⟨#[]⟩ : ByteArray) 0) = some r := h
  clear h
  have H' := Aside0.mk H
  clear H
  go_enter Tryd.func12, Tryd.ntmps12
  go_wp2
  go_loopg [3, 4] k (fun kq v3 v4 w' => ∃ (x3_1 : ByteArray) (x4_1 : Int), v3 = .string x3_1 ∧ v4 = .int .i64 x4_1 ∧ Aside0 (certpathlaw08_dns.l0 kq l0 x3_1 x4_1 = some r) ∧ Aside0 (kq ≤ k) ∧ Aside0 (Below w.heap.size w w'))
  case atStart => exact ⟨((⟨#[]⟩ : ByteArray)), (0), (by first | rfl | (simp; done) | (simp [*]; done)), (by first | rfl | (simp; done) | (simp [*]; done)), H', ⟨Nat.le_refl _⟩, ⟨by repeat (first | (with_reducible first | exact HB.out | apply below_alloc | apply pw_below_drewN | apply below_drew1) | exact HB.out)⟩⟩
  case round =>
    clear H'
    try clear c1
    obtain ⟨x3_1, x4_1, rfl, rfl, HA, HK1, HB⟩ := hrel
    cases gk with
    | zero => exact absurd HA.out (by simp [certpathlaw08_dns.l0])
    | succ k1 =>
      have H := HA.out
      clear HA
      simp only [certpathlaw08_dns.l0] at H
      have HC2 := Aside0.mk H
      clear H
      go_upto_region 3 with (fail)
      go_cut [13] (fun v13 wc => ∃ (kq : Nat) (x13_1 : Bool), v13 = .bool x13_1 ∧ Aside0 (certpathlaw08_dns.j1 kq l0 x3_1 x4_1 x13_1 = some r) ∧ Aside0 (kq ≤ k1) ∧ Aside0 (Below w.heap.size w wc))
      case first =>
        have H := HC2.out
        clear HC2
        by_cases c3 : x4_1 < (l0.length : Int)
        · rw [if_pos c3] at H
          have c3b0 : decide (x4_1 < (l0.length : Int)) = true := decide_eq_true c3
          clear c3
          (first | rw [c3b0] | (simp only [i64_w, i32_w]; rw [c3b0]) | skip)
          have H' := Aside0.mk H
          clear H
          go_wp2
          go_meet
          case rel => exact ⟨_, (decide (x4_1 < 4)), (by first | rfl | (simp; done) | (simp [*]; done)), H', ⟨by have := HK1.out; first | omega | exact Nat.le_refl _⟩, ⟨by repeat (first | (with_reducible first | exact HB.out | apply below_alloc | apply pw_below_drewN | apply below_drew1) | exact HB.out)⟩⟩
        · rw [if_neg c3] at H
          have c3b0 : decide (x4_1 < (l0.length : Int)) = false := decide_eq_false c3
          clear c3
          (first | rw [c3b0] | (simp only [i64_w, i32_w]; rw [c3b0]) | skip)
          have H' := Aside0.mk H
          clear H
          go_wp2
          go_meet
          case rel => exact ⟨_, (false), (by first | rfl | (simp; done) | (simp [*]; done)), H', ⟨by have := HK1.out; first | omega | exact Nat.le_refl _⟩, ⟨by repeat (first | (with_reducible first | exact HB.out | apply below_alloc | apply pw_below_drewN | apply below_drew1) | exact HB.out)⟩⟩
      case rest =>
        clear HC2
        try clear c1
        try clear p2
        try clear c3
        try clear c3b0
        obtain ⟨kq, x13_1, rfl, HA, HJ1, HB⟩ := hcut
        cases kq with
        | zero => exact absurd HA.out (by simp [certpathlaw08_dns.j1])
        | succ kj1 =>
          have H := HA.out
          clear HA
          simp only [certpathlaw08_dns.j1] at H
          by_cases c4 : x13_1 = true
          · subst c4
            have H1 : ((some (([(⟨#[97]⟩ : ByteArray), (⟨#[98]⟩ : ByteArray), (⟨#[65]⟩ : ByteArray), (⟨#[111, 114, 103]⟩ : ByteArray), (⟨#[120, 45, 121]⟩ : ByteArray)] : List ByteArray) : List ByteArray)).bind fun y210 => (if 0 ≤ x4_1 then (if x4_1 < (l0.length : Int) then (if 0 ≤ (Int.tmod (rd l0 x4_1) 5) then (if (Int.tmod (rd l0 x4_1) 5) < (y210.length : Int) then (if x3_1.toList = ([] : List UInt8) then (certpathlaw08_dns.l0 kj1 l0 (rdOf ByteArray.empty y210 (Int.tmod (rd l0 x4_1) 5)) (wrap64 (x4_1 + 1))) else (if (rdOf ByteArray.empty y210 (Int.tmod (rd l0 x4_1) 5)).size + 1 ≤ 9223372036854775807 then (if ((rdOf ByteArray.empty y210 (Int.tmod (rd l0 x4_1) 5)) ++ (⟨#[46]⟩ : ByteArray)).size + x3_1.size ≤ 9223372036854775807 then (certpathlaw08_dns.l0 kj1 l0 (((rdOf ByteArray.empty y210 (Int.tmod (rd l0 x4_1) 5)) ++ (⟨#[46]⟩ : ByteArray)) ++ x3_1) (wrap64 (x4_1 + 1))) else (none)) else (none))) else (none)) else (none)) else (none)) else (none))) = some r := by rw [if_pos rfl] at H; exact H
            clear H
            have H := H1
            clear H1
            obtain ⟨y210, hy210⟩ : ∃ y_ : List ByteArray, y_ = (([(⟨#[97]⟩ : ByteArray), (⟨#[98]⟩ : ByteArray), (⟨#[65]⟩ : ByteArray), (⟨#[111, 114, 103]⟩ : ByteArray), (⟨#[120, 45, 121]⟩ : ByteArray)] : List ByteArray)) := ⟨_, rfl⟩
            replace H : (if 0 ≤ x4_1 then (if x4_1 < (l0.length : Int) then (if 0 ≤ (Int.tmod (rd l0 x4_1) 5) then (if (Int.tmod (rd l0 x4_1) 5) < (y210.length : Int) then (if x3_1.toList = ([] : List UInt8) then (certpathlaw08_dns.l0 kj1 l0 (rdOf ByteArray.empty y210 (Int.tmod (rd l0 x4_1) 5)) (wrap64 (x4_1 + 1))) else (if (rdOf ByteArray.empty y210 (Int.tmod (rd l0 x4_1) 5)).size + 1 ≤ 9223372036854775807 then (if ((rdOf ByteArray.empty y210 (Int.tmod (rd l0 x4_1) 5)) ++ (⟨#[46]⟩ : ByteArray)).size + x3_1.size ≤ 9223372036854775807 then (certpathlaw08_dns.l0 kj1 l0 (((rdOf ByteArray.empty y210 (Int.tmod (rd l0 x4_1) 5)) ++ (⟨#[46]⟩ : ByteArray)) ++ x3_1) (wrap64 (x4_1 + 1))) else (none)) else (none))) else (none)) else (none)) else (none)) else (none)) = some r := by first | (rw [hy210]; with_reducible exact H) | (have H2_ := (Option.bind_some _ _).symm.trans H; rw [hy210]; with_reducible exact H2_) | (have H2_ := (Option.bind_some _ _).symm.trans H; with_reducible exact H2_) | with_reducible exact H | (rw [hy210]; exact H) | exact H
            have Ny210 := Aside0.mk hy210
            clear hy210
            by_cases c5 : 0 ≤ x4_1
            · rw [if_pos c5] at H
              have c5b0 : decide (0 ≤ x4_1) = true := decide_eq_true c5
              clear c5
              by_cases c6 : x4_1 < (l0.length : Int)
              · rw [if_pos c6] at H
                have c6b0 : decide (x4_1 < (l0.length : Int)) = true := decide_eq_true c6
                clear c6
                obtain ⟨ji7, hji7⟩ : ∃ j_ : Int, (Int.tmod (rd l0 x4_1) 5) = j_ := ⟨_, rfl⟩
                replace H : (if 0 ≤ (ji7) then (if (ji7) < (y210.length : Int) then (if x3_1.toList = ([] : List UInt8) then (certpathlaw08_dns.l0 kj1 l0 (rdOf ByteArray.empty y210 (ji7)) (wrap64 (x4_1 + 1))) else (if (rdOf ByteArray.empty y210 (ji7)).size + 1 ≤ 9223372036854775807 then (if ((rdOf ByteArray.empty y210 (ji7)) ++ (⟨#[46]⟩ : ByteArray)).size + x3_1.size ≤ 9223372036854775807 then (certpathlaw08_dns.l0 kj1 l0 (((rdOf ByteArray.empty y210 (ji7)) ++ (⟨#[46]⟩ : ByteArray)) ++ x3_1) (wrap64 (x4_1 + 1))) else (none)) else (none))) else (none)) else (none)) = some r := by first | (rw [hji7] at H; exact H) | (simp only [hji7] at H ⊢; exact H)
                by_cases c8 : 0 ≤ (ji7)
                · rw [if_pos c8] at H
                  have c8b0 : decide (0 ≤ (ji7)) = true := decide_eq_true c8
                  clear c8
                  by_cases c9 : (ji7) < (y210.length : Int)
                  · rw [if_pos c9] at H
                    have c9b0 : decide ((ji7) < (y210.length : Int)) = true := decide_eq_true c9
                    clear c9
                    by_cases c10 : x3_1.toList = ([] : List UInt8)
                    · rw [if_pos c10] at H
                      have c10b0 : (x3_1.toList == ([] : List UInt8)) = true := beq_iff_eq.mpr c10
                      have c10b1 : (x3_1.toList != ([] : List UInt8)) = false := bne_eq_false_iff_eq.mpr c10
                      (try (have c10b2 : (x3_1.toList).isEmpty = true := by simpa using c10))
                      (try (have c10b3 : (!(x3_1.toList).isEmpty) = false := by simpa using c10))
                      clear c10
                      have H' := Aside0.mk H
                      clear H
                      go_wp2_with (first | ((with_reducible refine gate_dst (N := 16) rfl ?_); refine Kd.R_lit Kd.string _ 9 ?hg (N := 16) ?hd (xs := ([(⟨#[97]⟩ : ByteArray), (⟨#[98]⟩ : ByteArray), (⟨#[65]⟩ : ByteArray), (⟨#[111, 114, 103]⟩ : ByteArray), (⟨#[120, 45, 121]⟩ : ByteArray)] : List ByteArray)) (inner := [.string (⟨#[97]⟩ : ByteArray), .string (⟨#[98]⟩ : ByteArray), .string (⟨#[65]⟩ : ByteArray), .string (⟨#[111, 114, 103]⟩ : ByteArray), .string (⟨#[120, 45, 121]⟩ : ByteArray)]) (ok := fun _ => True) (okp := fun _ => True) ?hr ?hp (fun _ hk => hk) trivial (Below.refl _ _) (Nat.le_refl _) (by simp) ?_; (case hd => rfl); (case hg => rfl); (case hr => first | (go_simp; done) | (go_simp; rfl)); (case hp => exact (Reps.one (show Kd.M Kd.string _ _ _ (⟨#[97]⟩ : ByteArray) [.string (⟨#[97]⟩ : ByteArray)] from rfl) (Reps.one (show Kd.M Kd.string _ _ _ (⟨#[98]⟩ : ByteArray) [.string (⟨#[98]⟩ : ByteArray)] from rfl) (Reps.one (show Kd.M Kd.string _ _ _ (⟨#[65]⟩ : ByteArray) [.string (⟨#[65]⟩ : ByteArray)] from rfl) (Reps.one (show Kd.M Kd.string _ _ _ (⟨#[111, 114, 103]⟩ : ByteArray) [.string (⟨#[111, 114, 103]⟩ : ByteArray)] from rfl) (Reps.one (show Kd.M Kd.string _ _ _ (⟨#[120, 45, 121]⟩ : ByteArray) [.string (⟨#[120, 45, 121]⟩ : ByteArray)] from rfl) (Reps.none _ _))))))); intro v211 w11 ho12 hb hg_ hnew_; clear hg_ hnew_; (first | rw [← Ny210.out] at ho12 | (simp only [Int.reduceToNat] at ho12; rw [← Ny210.out] at ho12)); have n0_ := Aside0.mk (Kd.R_lower ho12 (below_size (by repeat (first | (with_reducible first | exact HB.out | apply below_alloc | apply pw_below_drewN | apply below_drew1) | exact HB.out)))); have n1_ := Aside0.mk (below_step (by repeat (first | (with_reducible first | exact HB.out | apply below_alloc | apply pw_below_drewN | apply below_drew1) | exact HB.out)) hb); clear HB; have HO212 := n0_; have HB := n1_; clear n0_ n1_; clear hb ho12; have p213 : 0 ≤ (x4_1 : Int) := of_decide_eq_true (by first | (with_reducible assumption) | assumption); have q213 : x4_1 < (l0.length : Int) := of_decide_eq_true (by first | (with_reducible assumption) | assumption); obtain ⟨ad213, e213, hx213_0⟩ := Kd.at_int HR0.out x4_1 p213 q213; cases e213; replace hx213_0 := (HB.out.cell (World.block_lt_of_cell? w _ hx213_0)).trans hx213_0; replace p213 := eq_true p213; replace q213 := eq_true q213; obtain ⟨Ao13, co13, eo13⟩ := Kd.R_slice HO212.out; subst eo13; have p214 : 0 ≤ ((ji7) : Int) := of_decide_eq_true (by first | (with_reducible assumption) | assumption); have q214 : (ji7) < (y210.length : Int) := of_decide_eq_true (by first | (with_reducible assumption) | assumption); obtain ⟨ad214, e214, hx214_0⟩ := Kd.at_string (Kd.R_reads' HO212.out).2.2 (ji7) p214 q214; cases e214; replace p214 := eq_true p214; replace q214 := eq_true q214))
                      go_roundg kj1
                      case measure => have := HK1.out; have := HJ1.out; omega
                      case rel => exact ⟨(rdOf ByteArray.empty y210 (ji7)), (wrap64 (x4_1 + 1)), (by first | rfl | (simp; done) | (simp only [← hji7] <;> (first | rfl | (simp; done))) | (simp [*]; done)), (by first | rfl | (simp; done) | (simp [*]; done)), H', ⟨by have := HK1.out; have := HJ1.out; omega⟩, ⟨by repeat (first | (with_reducible first | exact HB.out | apply below_alloc | apply pw_below_drewN | apply below_drew1) | exact HB.out)⟩⟩
                    · rw [if_neg c10] at H
                      have c10b0 : (x3_1.toList == ([] : List UInt8)) = false := beq_eq_false_iff_ne.mpr c10
                      have c10b1 : (x3_1.toList != ([] : List UInt8)) = true := bne_iff_ne.mpr c10
                      (try (have c10b2 : (x3_1.toList).isEmpty = false := by simpa using c10))
                      (try (have c10b3 : (!(x3_1.toList).isEmpty) = true := by simpa using c10))
                      by_cases c14 : (rdOf ByteArray.empty y210 (ji7)).size + 1 ≤ 9223372036854775807
                      · rw [if_pos c14] at H
                        have c14b0 := eq_true c14
                        have c14b1 : decide ((rdOf ByteArray.empty y210 (ji7)).size + 1 ≤ 9223372036854775807) = true := decide_eq_true c14
                        try have c14b2 : (9223372036854775807 < (rdOf ByteArray.empty y210 (ji7)).size + 1) = False := eq_false (Nat.not_lt.2 c14)
                        by_cases c15 : ((rdOf ByteArray.empty y210 (ji7)) ++ (⟨#[46]⟩ : ByteArray)).size + x3_1.size ≤ 9223372036854775807
                        · rw [if_pos c15] at H
                          have c15b0 := eq_true c15
                          try (have c15s0 := c15; simp only [ByteArray.size_append, show (⟨#[46]⟩ : ByteArray).size = 1 from rfl] at c15s0; have c15s1 := eq_true c15s0; have c15s2 := decide_eq_true c15s0; have c15s3 := eq_false (Nat.not_lt.2 c15s0); clear c15s0)
                          have c15b1 : decide (((rdOf ByteArray.empty y210 (ji7)) ++ (⟨#[46]⟩ : ByteArray)).size + x3_1.size ≤ 9223372036854775807) = true := decide_eq_true c15
                          try have c15b2 : (9223372036854775807 < ((rdOf ByteArray.empty y210 (ji7)) ++ (⟨#[46]⟩ : ByteArray)).size + x3_1.size) = False := eq_false (Nat.not_lt.2 c15)
                          have H' := Aside0.mk H
                          clear H
                          go_wp2_with (first | ((with_reducible refine gate_dst (N := 16) rfl ?_); refine Kd.R_lit Kd.string _ 9 ?hg (N := 16) ?hd (xs := ([(⟨#[97]⟩ : ByteArray), (⟨#[98]⟩ : ByteArray), (⟨#[65]⟩ : ByteArray), (⟨#[111, 114, 103]⟩ : ByteArray), (⟨#[120, 45, 121]⟩ : ByteArray)] : List ByteArray)) (inner := [.string (⟨#[97]⟩ : ByteArray), .string (⟨#[98]⟩ : ByteArray), .string (⟨#[65]⟩ : ByteArray), .string (⟨#[111, 114, 103]⟩ : ByteArray), .string (⟨#[120, 45, 121]⟩ : ByteArray)]) (ok := fun _ => True) (okp := fun _ => True) ?hr ?hp (fun _ hk => hk) trivial (Below.refl _ _) (Nat.le_refl _) (by simp) ?_; (case hd => rfl); (case hg => rfl); (case hr => first | (go_simp; done) | (go_simp; rfl)); (case hp => exact (Reps.one (show Kd.M Kd.string _ _ _ (⟨#[97]⟩ : ByteArray) [.string (⟨#[97]⟩ : ByteArray)] from rfl) (Reps.one (show Kd.M Kd.string _ _ _ (⟨#[98]⟩ : ByteArray) [.string (⟨#[98]⟩ : ByteArray)] from rfl) (Reps.one (show Kd.M Kd.string _ _ _ (⟨#[65]⟩ : ByteArray) [.string (⟨#[65]⟩ : ByteArray)] from rfl) (Reps.one (show Kd.M Kd.string _ _ _ (⟨#[111, 114, 103]⟩ : ByteArray) [.string (⟨#[111, 114, 103]⟩ : ByteArray)] from rfl) (Reps.one (show Kd.M Kd.string _ _ _ (⟨#[120, 45, 121]⟩ : ByteArray) [.string (⟨#[120, 45, 121]⟩ : ByteArray)] from rfl) (Reps.none _ _))))))); intro v211 w16 ho17 hb hg_ hnew_; clear hg_ hnew_; (first | rw [← Ny210.out] at ho17 | (simp only [Int.reduceToNat] at ho17; rw [← Ny210.out] at ho17)); have n0_ := Aside0.mk (Kd.R_lower ho17 (below_size (by repeat (first | (with_reducible first | exact HB.out | apply below_alloc | apply pw_below_drewN | apply below_drew1) | exact HB.out)))); have n1_ := Aside0.mk (below_step (by repeat (first | (with_reducible first | exact HB.out | apply below_alloc | apply pw_below_drewN | apply below_drew1) | exact HB.out)) hb); clear HB; have HO212 := n0_; have HB := n1_; clear n0_ n1_; clear hb ho17; have p213 : 0 ≤ (x4_1 : Int) := of_decide_eq_true (by first | (with_reducible assumption) | assumption); have q213 : x4_1 < (l0.length : Int) := of_decide_eq_true (by first | (with_reducible assumption) | assumption); obtain ⟨ad213, e213, hx213_0⟩ := Kd.at_int HR0.out x4_1 p213 q213; cases e213; replace hx213_0 := (HB.out.cell (World.block_lt_of_cell? w _ hx213_0)).trans hx213_0; replace p213 := eq_true p213; replace q213 := eq_true q213; obtain ⟨Ao18, co18, eo18⟩ := Kd.R_slice HO212.out; subst eo18; have p214 : 0 ≤ ((ji7) : Int) := of_decide_eq_true (by first | (with_reducible assumption) | assumption); have q214 : (ji7) < (y210.length : Int) := of_decide_eq_true (by first | (with_reducible assumption) | assumption); obtain ⟨ad214, e214, hx214_0⟩ := Kd.at_string (Kd.R_reads' HO212.out).2.2 (ji7) p214 q214; cases e214; replace p214 := eq_true p214; replace q214 := eq_true q214))
                          go_roundg kj1
                          case measure => have := HK1.out; have := HJ1.out; omega
                          case rel => exact ⟨(((rdOf ByteArray.empty y210 (ji7)) ++ (⟨#[46]⟩ : ByteArray)) ++ x3_1), (wrap64 (x4_1 + 1)), (by first | rfl | (simp; done) | (simp only [← hji7] <;> (first | rfl | (simp; done))) | (simp [*]; done)), (by first | rfl | (simp; done) | (simp [*]; done)), H', ⟨by have := HK1.out; have := HJ1.out; omega⟩, ⟨by repeat (first | (with_reducible first | exact HB.out | apply below_alloc | apply pw_below_drewN | apply below_drew1) | exact HB.out)⟩⟩
                        · rw [if_neg c15] at H
                          exact absurd H (by simp)
                      · rw [if_neg c14] at H
                        exact absurd H (by simp)
                  · rw [if_neg c9] at H
                    exact absurd H (by simp)
                · rw [if_neg c8] at H
                  exact absurd H (by simp)
              · rw [if_neg c6] at H
                exact absurd H (by simp)
            · rw [if_neg c5] at H
              exact absurd H (by simp)
          · replace c4 := Bool.eq_false_iff.mpr c4
            subst c4
            have H1 : (some x3_1) = some r := by rw [if_neg (show ¬ (false = true) by decide)] at H; exact H
            clear H
            have H := H1
            clear H1
            obtain rfl := Option.some.inj H
            go_wp2
            go_ret
            exact ⟨by first | rfl | (simp [errW_none, errW_some] <;> rfl) | (simp [*, errW_none, errW_some] <;> rfl), by repeat (first | (with_reducible first | exact HB.out | apply below_alloc | apply pw_below_drewN | apply below_drew1) | exact HB.out)⟩

end Go.Proofs.YtegmenlonpgnpaaDoor.Q
