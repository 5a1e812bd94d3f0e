/- For all strings and masks, the program's Flags and PutFlags agree with the document's definition, and Flags inverts PutFlags on masks of 16 bits (no condition). -/
import Derived.Test.YtpiakeejfggocaaQx20
import Derived.Test.YtpiakeejfggocaaBit
import Derived.KernelRfl
set_option linter.unusedVariables false
set_option linter.unusedSimpArgs false
namespace Go.Proofs.Ytpiakeejfggocaa.Pure
open Go Go.RowKit Go.Proofs.Ytpiakeejfggocaa.Q Go.Proofs.YtpiakeejfggocaaW.PrintWords Go.Proofs.YtpiakeejfggocaaW.PrintLast Go.Proofs.YtpiakeejfggocaaW.PrintMore Go.Proofs.Ytpiakeejfggocaa.Num

theorem awake_true : Ev (fun k => certpathlaw03_awake.f k) true :=
  Ev.of certpathlaw03_awake.mono (k := 12) (by
    unfold certpathlaw03_awake.f
    have e1 : prim_PutFlags.f 12 6 = some (strOfNums [5, 96], 0) := by kernel_rfl
    have e2 : prim_PutInteger.f 12 128 = some (strOfNums [0, 128]) := by kernel_rfl
    have e3 : prim_PutInteger.f 12 (-1) = some (strOfNums [255]) := by kernel_rfl
    rw [e1, e2, e3]
    simp [Lib.toList_data, strOfNums])

/-- Are the unused bits of the last byte 0? -/
def spareOK (s : ByteArray) (u : Int) : Bool := decide (u = 0) || (decide (s.size ≠ 0) && decide (bt s ((s.size : Int) - 1) % 2 ^ u.toNat = 0))
def bitsOf (s : ByteArray) : ByteArray × Int × Int :=
  if s.size = 0 then (⟨#[]⟩, 0, 7) else if bt s 0 > 7 then (⟨#[]⟩, 0, 7) else if spareOK (s.extract 1 s.size) (bt s 0) = true then (s.extract 1 s.size, bt s 0, 0) else (⟨#[]⟩, 0, 7)
theorem tail_size (s : ByteArray) (h : s.size ≠ 0) : (s.extract 1 s.size).size = s.size - 1 := by rw [ByteArray.size_extract]; omega
theorem spare_any (s : ByteArray) (u : Int) (hs : s.size ≤ 140737488351232) (h0 : 0 ≤ u) (h7 : u ≤ 7) : prim_spare.f s u = some (spareOK s u) := by
  unfold prim_spare.f spareOK
  by_cases hu : u = 0
  · rw [if_pos hu]; simp [hu]
  · rw [if_neg hu]
    by_cases hz : s.size = 0
    · rw [if_pos ((toList_nil_iff s).2 (by omega))]; simp [hu, hz]
    · have hb := bt_range s ((s.size : Int) - 1)
      obtain ⟨n, rfl⟩ : ∃ n : Nat, u = (n : Int) := ⟨u.toNat, by omega⟩
      rw [if_neg (fun h => hz (by have := (toList_nil_iff s).1 h; omega)), w64 ((s.size : Int) - 1) (by omega) (by omega), if_pos (by omega), if_pos (by omega), u64 _ (by omega) (by omega), if_pos (by omega),
        shl_u8 n (by omega)]
      have hp : 2 ^ n ≤ 128 := Nat.pow_le_pow_right (by omega : 0 < 2) (show n ≤ 7 by omega)
      have hp1 : 0 < 2 ^ n := Nat.two_pow_pos n
      have e : (((2 ^ n : Nat) : Int) - 1) % 256 = 2 ^ n - 1 := by rw [← pow_nat]; omega
      rw [e, and_u8 _ n (by omega) hb.1 (by omega), Int.toNat_natCast]
      have hn : n ≠ 0 := by omega
      by_cases c : bt s ((s.size : Int) - 1) % 2 ^ n = 0 <;> simp [c, hn, hz]
theorem bits_any (s : ByteArray) (hs : s.size ≤ 140737488351232) : prim_Bits.f s = some (bitsOf s) := by
  unfold prim_Bits.f bitsOf
  by_cases hz : s.size = 0
  · rw [if_pos ((toList_nil_iff s).2 (by omega)), if_pos hz]
  · rw [if_neg (fun h => hz (by have := (toList_nil_iff s).1 h; omega)), if_pos (by omega), if_neg hz]
    by_cases h7 : bt s 0 > 7
    · rw [if_pos h7, if_pos h7]
    · have hb := bt_range s 0
      rw [if_neg h7, if_neg h7, if_pos (by omega), w64 (bt s 0) (by omega) (by omega), spare_any _ _ (by rw [tail_size s hz]; omega) hb.1 (by omega), Option.bind_some]
      by_cases c : spareOK (s.extract 1 s.size) (bt s 0) = true
      · rw [if_pos c, if_pos c]
      · rw [if_neg c, if_neg c]

theorem rbits_any (s : ByteArray) (hs : s.size ≤ 140737488351232) : certpathref01_Bits.f s = some (bitsOf s) := by
  unfold certpathref01_Bits.f bitsOf
  by_cases hz : s.size = 0
  · rw [if_pos (by omega), if_pos hz]
  · rw [if_neg (by omega), if_pos (by omega), if_neg hz]
    by_cases h7 : bt s 0 > 7
    · rw [if_pos h7, if_pos h7]
    · have hb := bt_range s 0
      rw [if_neg h7, if_neg h7, w64 (bt s 0) (by omega) (by omega)]
      by_cases h0 : bt s 0 > 0
      · rw [if_pos h0]
        by_cases h1 : (s.size : Int) = 1
        · rw [if_pos h1, if_neg]
          unfold spareOK
          rw [tail_size s hz]
          simp; omega
        · have hl := bt_range s ((s.size : Int) - 1)
          obtain ⟨n, hn⟩ : ∃ n : Nat, bt s 0 = (n : Int) := ⟨(bt s 0).toNat, by omega⟩
          have hp1 : 0 < 2 ^ n := Nat.two_pow_pos n
          rw [if_neg h1, w64 ((s.size : Int) - 1) (by omega) (by omega), if_pos (by omega), if_pos (by omega), if_pos hb.1, hn, shl_i64 n (by omega), if_neg (by omega),
            w64 (bt s _) (by omega) (by omega), Int.tmod_eq_emod_of_nonneg hl.1, if_pos (by omega : (1 : Int) ≤ s.size)]
          have e : spareOK (s.extract 1 s.size) (n : Int) = decide (bt s ((s.size : Int) - 1) % ((2 ^ n : Nat) : Int) = 0) := by
            unfold spareOK
            rw [tail_size s hz, bt_tail s _ (by omega), show (((s.size - 1 : Nat) : Int) - 1 + 1) = (s.size : Int) - 1 by omega, Int.toNat_natCast, pow_nat]
            have a : decide ((n : Int) = 0) = false := by simp; omega
            have b : decide (s.size - 1 ≠ 0) = true := decide_eq_true (by omega)
            rw [a, b]; simp
          rw [e]
          by_cases c : bt s ((s.size : Int) - 1) % ((2 ^ n : Nat) : Int) = 0
          · rw [if_pos c, if_pos (decide_eq_true c)]
          · rw [if_neg c, if_neg (by simpa using c)]
      · rw [if_neg h0, if_pos (by omega), if_pos]
        unfold spareOK
        simp; omega

def bitAt (b : ByteArray) (k : Nat) : Bool := (bt b ((k / 8 : Nat) : Int)).toNat.testBit (7 - k % 8)
def flagsOf (b : ByteArray) (N : Nat) : Int × Int := if 0 < N ∧ bitAt b (N - 1) = false then (0, 7) else if N > 16 then (0, 1) else ((um (bitAt b) N : Nat), 0)
theorem bits_cases (s : ByteArray) : bitsOf s = (⟨#[]⟩, 0, 7) ∨ ∃ (u N : Nat), s.size ≠ 0 ∧ bt s 0 = (u : Int) ∧ u ≤ 7 ∧ spareOK (s.extract 1 s.size) u = true ∧ 8 * (s.extract 1 s.size).size = N + u ∧ bitsOf s = (s.extract 1 s.size, (u : Int), 0) := by
  unfold bitsOf
  by_cases hz : s.size = 0
  · exact .inl (by rw [if_pos hz])
  · by_cases h7 : bt s 0 > 7
    · exact .inl (by rw [if_neg hz, if_pos h7])
    · by_cases c : spareOK (s.extract 1 s.size) (bt s 0) = true
      · have hb := bt_range s 0
        refine .inr ⟨(bt s 0).toNat, 8 * (s.extract 1 s.size).size - (bt s 0).toNat, hz, by omega, by omega, ?_, ?_, ?_⟩
        · rw [Int.toNat_of_nonneg hb.1]; exact c
        · by_cases h0 : bt s 0 = 0
          · omega
          · have : (s.extract 1 s.size).size ≠ 0 := by
              unfold spareOK at c
              simp only [Bool.or_eq_true, Bool.and_eq_true, decide_eq_true_eq] at c
              rcases c with c | c
              · exact absurd c h0
              · exact c.1
            omega
        · rw [if_neg hz, if_neg h7, if_pos c, Int.toNat_of_nonneg hb.1]
      · exact .inl (by rw [if_neg hz, if_neg h7, if_neg c])
theorem bit_any (b : ByteArray) (k : Nat) (hb : b.size ≤ 140737488351232) (hk : k < 8 * b.size) : prim_bit.f b k = some (bitAt b k) := by
  have e1 : Int.tdiv (k : Int) 8 = ((k / 8 : Nat) : Int) := by rw [Int.tdiv_eq_ediv_of_nonneg (by omega)]; omega
  have e2 : Int.tmod (k : Int) 8 = ((k % 8 : Nat) : Int) := by rw [Int.tmod_eq_emod_of_nonneg (by omega)]; omega
  have e3 : (7 : Int) - ((k % 8 : Nat) : Int) = ((7 - k % 8 : Nat) : Int) := by omega
  obtain ⟨x, hx, ex⟩ := bt_nat b ((k / 8 : Nat) : Int)
  have hd : ((x / 2 ^ (7 - k % 8) : Nat) : Int) < 256 := cast_lt _ 256 256 rfl (Nat.lt_of_le_of_lt (Nat.div_le_self _ _) hx)
  unfold prim_bit.f bitAt
  rw [e1, e2, w64 _ (by omega) (by omega), if_pos (by omega), if_pos (by omega), u64 ((k % 8 : Nat) : Int) (by omega) (by omega), e3, u64 _ (by omega) (by omega), if_pos (by omega), ex,
    shr_u8 x _ (by omega), and_u8_one _ (Int.natCast_nonneg _) hd, Int.toNat_natCast, tb_div]
  congr 1
  rw [Bool.eq_iff_iff]; simp only [beq_iff_eq, decide_eq_true_eq]; omega
theorem flags_loop (b : ByteArray) (hb : b.size ≤ 140737488351232) (n : Nat) (hn : n ≤ 16) (hs : n ≤ 8 * b.size) : ∀ (d i : Nat), i + d = n →
    Ev (fun k => prim_Flags.l0 k b ((um (bitAt b) i : Nat) : Int) n i) (((um (bitAt b) n : Nat) : Int), 0)
  | 0, i, hd => by
    obtain rfl : i = n := by omega
    refine Ev.step (f := fun _ => some (((um (bitAt b) i : Nat) : Int), 0)) (fun k => by simp only [prim_Flags.l0]; rw [if_neg (by omega)]) (Ev.now _)
  | d + 1, i, hd => by
    refine Ev.step (f := fun k => prim_Flags.l0 k b ((um (bitAt b) (i + 1) : Nat) : Int) n ((i + 1 : Nat) : Int)) (fun k => ?_) (flags_loop b hb n hn hs d (i + 1) (by omega))
    have hu := um_lt (bitAt b) i
    have hp : 2 ^ i ≤ 2 ^ 15 := Nat.pow_le_pow_right (by omega) (by omega)
    simp only [prim_Flags.l0]
    rw [if_pos (by omega), bit_any b i hb (by omega), Option.bind_some, u64 (i : Int) (by omega) (by omega), w64 ((i : Int) + 1) (by omega) (by omega), if_pos (by omega : (0 : Int) ≤ i), shl_i64 i (by omega), or_i64_nat (um (bitAt b) i) (2 ^ i) (by omega) (by omega), um_succ]
    by_cases c : bitAt b i = true
    · rw [if_pos c, if_pos c]; rfl
    · rw [if_neg c, if_neg c]; rfl
theorem flags_any (s : ByteArray) (hs : s.size ≤ 140737488351232) : Ev (fun k => prim_Flags.f k s) (if (bitsOf s).2.2 = 0 then flagsOf (bitsOf s).1 (8 * (bitsOf s).1.size - (bitsOf s).2.1.toNat) else (0, 7)) := by
  rcases bits_cases s with h | ⟨u, N, hz, hu0, hu, hsp, hN, h⟩
  · refine Ev.congr (f := fun _ => some (0, 7)) (fun k => ?_) (by rw [h]; exact Ev.now _)
    unfold prim_Flags.f
    rw [bits_any s hs, h, Option.bind_some]; rfl
  · rw [h]
    generalize hb : s.extract 1 s.size = b at *
    have hbs : b.size ≤ 140737488351232 := by rw [← hb, tail_size s hz]; omega
    rw [if_pos rfl, Int.toNat_natCast, show 8 * b.size - u = N by omega]
    refine Ev.congr (f := fun k => prim_Flags.j0 k b N (decide (0 < N ∧ bitAt b (N - 1) = false))) (fun k => ?_) ?_
    · unfold prim_Flags.f
      rw [bits_any s hs, h, Option.bind_some]
      have e : wrap64 (wrap64 (8 * (b.size : Int)) - (u : Int)) = (N : Int) := by rw [w64 (8 * (b.size : Int)) (by omega) (by omega), w64 _ (by omega) (by omega)]; omega
      simp only [e, if_true]
      by_cases c : 0 < N
      · have e2 : wrap64 ((N : Int) - 1) = ((N - 1 : Nat) : Int) := by rw [w64 _ (by omega) (by omega)]; omega
        rw [if_pos (by omega), e2, bit_any b (N - 1) hbs (by omega), Option.bind_some]
        congr 1
        cases bitAt b (N - 1) <;> simp [c]
      · rw [if_neg (by omega)]
        congr 1
        simp [c]
    · unfold flagsOf
      by_cases c : 0 < N ∧ bitAt b (N - 1) = false
      · rw [if_pos c, decide_eq_true c]
        exact Ev.step (f := fun _ => some (0, 7)) (fun k => by simp only [prim_Flags.j0]; rw [if_pos trivial]) (Ev.now _)
      · rw [if_neg c, decide_eq_false c]
        by_cases g : N > 16
        · rw [if_pos g]
          exact Ev.step (f := fun _ => some (0, 1)) (fun k => by simp only [prim_Flags.j0]; rw [if_neg (by decide), if_pos (by omega)]) (Ev.now _)
        · rw [if_neg g]
          refine Ev.step (f := fun k => prim_Flags.l0 k b ((um (bitAt b) 0 : Nat) : Int) N ((0 : Nat) : Int)) (fun k => ?_) (flags_loop b hbs N (by omega) (by omega) N 0 (by omega))
          simp only [prim_Flags.j0]; rw [if_neg (by decide), if_neg (by omega)]; rfl

theorem rflags_loop (b : ByteArray) (hb : b.size ≤ 140737488351232) (n : Nat) (hn : n ≤ 16) (hs : n ≤ 8 * b.size) : ∀ (d i : Nat), i + d = n →
    Ev (fun k => certpathref01_Flags.l0 k b n ((um (bitAt b) i : Nat) : Int) i) (((um (bitAt b) n : Nat) : Int), 0)
  | 0, i, hd => by
    obtain rfl : i = n := by omega
    refine Ev.step (f := fun _ => some (((um (bitAt b) i : Nat) : Int), 0)) (fun k => by simp only [certpathref01_Flags.l0]; rw [if_neg (by omega)]) (Ev.now _)
  | d + 1, i, hd => by
    refine Ev.step (f := fun k => certpathref01_Flags.l0 k b n ((um (bitAt b) (i + 1) : Nat) : Int) ((i + 1 : Nat) : Int)) (fun k => ?_) (rflags_loop b hb n hn hs d (i + 1) (by omega))
    have hu := um_lt (bitAt b) i
    have hp : 2 ^ i ≤ 2 ^ 15 := Nat.pow_le_pow_right (by omega) (by omega)
    have e1 : Int.tdiv (i : Int) 8 = ((i / 8 : Nat) : Int) := by rw [Int.tdiv_eq_ediv_of_nonneg (by omega)]; omega
    have e2 : Int.tmod (i : Int) 8 = ((i % 8 : Nat) : Int) := by rw [Int.tmod_eq_emod_of_nonneg (by omega)]; omega
    have e3 : (7 : Int) - ((i % 8 : Nat) : Int) = ((7 - i % 8 : Nat) : Int) := by omega
    obtain ⟨x, hx, ex⟩ := bt_nat b ((i / 8 : Nat) : Int)
    have hbit : (Int.tmod (((x / 2 ^ (7 - i % 8) : Nat) : Int)) 2 = 1) ↔ bitAt b i = true := by
      unfold bitAt
      rw [Int.tmod_eq_emod_of_nonneg (Int.natCast_nonneg _), ex, Int.toNat_natCast, tb_div]; simp only [decide_eq_true_eq]; omega
    simp only [certpathref01_Flags.l0]
    rw [if_pos (by omega), e1, e2, w64 ((i / 8 : Nat) : Int) (by omega) (by omega), if_pos (by omega), if_pos (by omega), e3, w64 ((7 - i % 8 : Nat) : Int) (by omega) (by omega), if_pos (by omega), ex,
      shr_u8 x _ (by omega), if_pos (by omega : (0 : Int) ≤ (i : Int)), w64 ((i : Int) + 1) (by omega) (by omega), shl_i64 i (by omega), or_i64_nat (um (bitAt b) i) (2 ^ i) (by omega) (by omega), um_succ]
    by_cases c : bitAt b i = true
    · rw [if_pos c, if_pos (hbit.2 c)]; rfl
    · rw [if_neg c, if_neg (fun h => c (hbit.1 h))]; rfl
theorem rflags_any (s : ByteArray) (hs : s.size ≤ 140737488351232) : Ev (fun k => certpathref01_Flags.f k s) (if (bitsOf s).2.2 = 0 then flagsOf (bitsOf s).1 (8 * (bitsOf s).1.size - (bitsOf s).2.1.toNat) else (0, 7)) := by
  rcases bits_cases s with h | ⟨u, N, hz, hu0, hu, hsp, hN, h⟩
  · refine Ev.congr (f := fun _ => some (0, 7)) (fun k => ?_) (by rw [h]; exact Ev.now _)
    unfold certpathref01_Flags.f
    rw [rbits_any s hs, h, Option.bind_some]; rfl
  · rw [h]
    generalize hb : s.extract 1 s.size = b at *
    have hbs : b.size ≤ 140737488351232 := by rw [← hb, tail_size s hz]; omega
    rw [if_pos rfl, Int.toNat_natCast, show 8 * b.size - u = N by omega]
    refine Ev.congr (f := fun k => certpathref01_Flags.j0 k b N (decide (0 < N ∧ bitAt b (N - 1) = false))) (fun k => ?_) ?_
    · unfold certpathref01_Flags.f
      rw [rbits_any s hs, h, Option.bind_some]
      have e : wrap64 (wrap64 (8 * (b.size : Int)) - (u : Int)) = (N : Int) := by rw [w64 (8 * (b.size : Int)) (by omega) (by omega), w64 _ (by omega) (by omega)]; omega
      simp only [e, if_true]
      by_cases c : 0 < N
      · have e2 : wrap64 ((b.size : Int) - 1) = (((N - 1) / 8 : Nat) : Int) := by rw [w64 _ (by omega) (by omega)]; omega
        obtain ⟨x, hx, ex⟩ := bt_nat b (((N - 1) / 8 : Nat) : Int)
        rw [if_pos (by omega), e2, if_pos (by omega), if_pos (by omega), if_pos (by omega), ex, shr_u8 x u (by omega), Int.tmod_eq_emod_of_nonneg (Int.natCast_nonneg _)]
        congr 1
        have e3 : bitAt b (N - 1) = decide (x / 2 ^ u % 2 = 1) := by
          unfold bitAt
          rw [ex, Int.toNat_natCast, tb_div, show 7 - (N - 1) % 8 = u by omega]
        rw [e3, Bool.eq_iff_iff]
        simp only [beq_iff_eq, decide_eq_true_eq, decide_eq_false_iff_not]
        omega
      · rw [if_neg (by omega)]
        congr 1
        simp [c]
    · unfold flagsOf
      by_cases c : 0 < N ∧ bitAt b (N - 1) = false
      · rw [if_pos c, decide_eq_true c]
        exact Ev.step (f := fun _ => some (0, 7)) (fun k => by simp only [certpathref01_Flags.j0]; rw [if_pos trivial]) (Ev.now _)
      · rw [if_neg c, decide_eq_false c]
        by_cases g : N > 16
        · rw [if_pos g]
          exact Ev.step (f := fun _ => some (0, 1)) (fun k => by simp only [certpathref01_Flags.j0]; rw [if_neg (by decide), if_pos (by omega)]) (Ev.now _)
        · rw [if_neg g]
          refine Ev.step (f := fun k => certpathref01_Flags.l0 k b N ((um (bitAt b) 0 : Nat) : Int) ((0 : Nat) : Int)) (fun k => ?_) (rflags_loop b hbs N (by omega) (by omega) N 0 (by omega))
          simp only [certpathref01_Flags.j0]; rw [if_neg (by decide), if_neg (by omega)]; rfl

def body (m i L : Nat) : List Int := (List.range L).map fun j => ((pk (fun t => decide (8 * j + t < i) && m.testBit (8 * j + t)) 8 : Nat) : Int)
def flagBytes (m n : Nat) : List Int := ((8 * ((n + 7) / 8) - n : Nat) : Int) :: body m n ((n + 7) / 8)
theorem body_length (m i L : Nat) : (body m i L).length = L := by simp [body]
theorem body_zero (m L : Nat) : body m 0 L = List.replicate L 0 := by
  unfold body
  rw [List.eq_replicate_iff]
  refine ⟨by simp, fun b hb => ?_⟩
  rw [List.mem_map] at hb
  obtain ⟨j, _, rfl⟩ := hb
  have : pk (fun t => decide (8 * j + t < 0) && m.testBit (8 * j + t)) 8 = 0 := by
    apply Nat.eq_of_testBit_eq
    intro t
    rw [pk8]; simp
  rw [this]; rfl
theorem body_skip (m i L : Nat) (h : m.testBit i = false) : body m (i + 1) L = body m i L := by
  unfold body
  apply List.map_congr_left
  intro j _
  congr 1
  apply Nat.eq_of_testBit_eq
  intro t
  rw [pk8, pk8]
  by_cases e : 8 * j + (7 - t) = i
  · rw [e, h]; simp
  · have : decide (8 * j + (7 - t) < i + 1) = decide (8 * j + (7 - t) < i) := by rw [decide_eq_decide]; omega
    rw [this]
theorem body_get (m i L j : Nat) (h : j < L) : (body m i L)[j]'(by rw [body_length]; exact h) = ((pk (fun t => decide (8 * j + t < i) && m.testBit (8 * j + t)) 8 : Nat) : Int) := by
  simp [body]
theorem body_put (m i L : Nat) (h : m.testBit i = true) : (body m i L).set (i / 8) ((pk (fun t => decide (8 * (i / 8) + t < i) && m.testBit (8 * (i / 8) + t)) 8 ||| 2 ^ (7 - i % 8) : Nat) : Int) = body m (i + 1) L := by
  apply List.ext_getElem
  · simp [body_length]
  · intro j h1 h2
    rw [body_length] at h2
    rw [List.getElem_set, body_get _ _ _ _ h2, body_get _ _ _ _ h2]
    by_cases e : i / 8 = j
    · rw [if_pos e]
      subst e
      congr 1
      apply Nat.eq_of_testBit_eq
      intro t
      rw [Nat.testBit_or, pk8, pk8, Nat.testBit_two_pow]
      by_cases ht : t ≤ 7
      · by_cases e2 : 7 - i % 8 = t
        · have e3 : 8 * (i / 8) + (7 - t) = i := by omega
          rw [e3, h]; simp [ht, e2]
        · have e3 : decide (8 * (i / 8) + (7 - t) < i + 1) = decide (8 * (i / 8) + (7 - t) < i) := by rw [decide_eq_decide]; omega
          rw [e3]; simp [e2]
      · have e2 : ¬ (7 - i % 8 = t) := by omega
        simp [ht, e2]
    · rw [if_neg e]
      congr 1
      apply Nat.eq_of_testBit_eq
      intro t
      rw [pk8, pk8]
      by_cases ht : t ≤ 7
      · have e3 : decide (8 * j + (7 - t) < i + 1) = decide (8 * j + (7 - t) < i) := by rw [decide_eq_decide]; omega
        rw [e3]
      · simp [ht]
theorem pf_loop (m n : Nat) (hm : m < 65536) (hn : n ≤ 16) : ∀ (d i : Nat), i + d = n →
    Ev (fun k => prim_PutFlags.l1 k m (((8 * ((n + 7) / 8) - n : Nat) : Int) :: body m i ((n + 7) / 8)) n i) (strOfNums (flagBytes m n), 0)
  | 0, i, hd => by
    obtain rfl : i = n := by omega
    exact Ev.step (f := fun _ => some (strOfNums (flagBytes m i), 0)) (fun k => by simp only [prim_PutFlags.l1]; rw [if_neg (by omega)]; rfl) (Ev.now _)
  | d + 1, i, hd => by
    refine Ev.step (f := fun k => prim_PutFlags.l1 k m (((8 * ((n + 7) / 8) - n : Nat) : Int) :: body m (i + 1) ((n + 7) / 8)) n ((i + 1 : Nat) : Int)) (fun k => ?_) (pf_loop m n hm hn d (i + 1) (by omega))
    have e1 : Int.tdiv (i : Int) 8 = ((i / 8 : Nat) : Int) := by rw [Int.tdiv_eq_ediv_of_nonneg (by omega)]; omega
    have e2 : Int.tmod (i : Int) 8 = ((i % 8 : Nat) : Int) := by rw [Int.tmod_eq_emod_of_nonneg (by omega)]; omega
    have e3 : (7 : Int) - ((i % 8 : Nat) : Int) = ((7 - i % 8 : Nat) : Int) := by omega
    have e4 : (1 : Int) + ((i / 8 : Nat) : Int) = ((i / 8 + 1 : Nat) : Int) := by omega
    have hdv : ((m / 2 ^ i : Nat) : Int) < 9223372036854775808 := cast_lt _ 9223372036854775808 _ rfl (Nat.lt_of_le_of_lt (Nat.div_le_self _ _) (by omega))
    have hbit : (((m / 2 ^ i : Nat) : Int) % 2 = 1) ↔ m.testBit i = true := by rw [tb_div]; simp only [decide_eq_true_eq]; omega
    simp only [prim_PutFlags.l1]
    rw [if_pos (by omega), u64 (i : Int) (by omega) (by omega), if_pos (by omega), shr_i64_nat m i (by omega), and_i64_one _ (Int.natCast_nonneg _) hdv, e1, e2, w64 ((i / 8 : Nat) : Int) (by omega) (by omega), e4,
      w64 ((i / 8 + 1 : Nat) : Int) (by omega) (by omega), u64 ((i % 8 : Nat) : Int) (by omega) (by omega), e3, u64 ((7 - i % 8 : Nat) : Int) (by omega) (by omega),
      shl_u8 _ (by omega), w64 ((i : Int) + 1) (by omega) (by omega), Int.toNat_natCast, List.set_cons_succ]
    have e5 : rd (((8 * ((n + 7) / 8) - n : Nat) : Int) :: body m i ((n + 7) / 8)) ((i / 8 + 1 : Nat) : Int) = ((pk (fun t => decide (8 * (i / 8) + t < i) && m.testBit (8 * (i / 8) + t)) 8 : Nat) : Int) := by
      unfold rd
      rw [Int.toNat_natCast, List.getD_cons_succ, List.getD_eq_getElem?_getD, List.getElem?_eq_getElem (by rw [body_length]; omega), Option.getD_some, body_get _ _ _ _ (by omega)]
    have hp : 2 ^ (7 - i % 8) ≤ 2 ^ 7 := Nat.pow_le_pow_right (by omega) (by omega)
    rw [e5, or_u8 _ _ (pk_lt _) (by omega)]
    by_cases c : m.testBit i = true
    · rw [if_pos (hbit.2 c), if_pos (by omega), if_pos (by rw [List.length_cons, body_length]; omega), if_pos (by omega), body_put m i _ c]; rfl
    · rw [if_neg (fun h => c (hbit.1 h)), body_skip m i _ (by simpa using c)]; rfl
theorem pf_count (m n : Nat) (hm : m < 65536) (hn : n ≤ 16) (hlt : m < 2 ^ n) (htop : 0 < n → m.testBit (n - 1) = true) : ∀ (d i : Nat), i + d = n →
    Ev (fun k => prim_PutFlags.l0 k m i) (strOfNums (flagBytes m n), 0)
  | 0, i, hd => by
    obtain rfl : i = n := by omega
    refine Ev.step (f := fun k => prim_PutFlags.l1 k m (((8 * ((i + 7) / 8) - i : Nat) : Int) :: body m 0 ((i + 7) / 8)) i ((0 : Nat) : Int)) (fun k => ?_) (pf_loop m i hm hn i 0 (by omega))
    have e1 : Int.tdiv ((i : Int) + 7) 8 = (((i + 7) / 8 : Nat) : Int) := by rw [Int.tdiv_eq_ediv_of_nonneg (by omega)]; omega
    have e4 : (1 : Int) + (((i + 7) / 8 : Nat) : Int) = (((i + 7) / 8 + 1 : Nat) : Int) := by omega
    simp only [prim_PutFlags.l0]
    rw [u64 (i : Int) (by omega) (by omega), if_pos (by omega), shr_i64_nat m i (by omega), Nat.div_eq_of_lt hlt, if_neg (by omega), w64 ((i : Int) + 7) (by omega) (by omega), e1, w64 (((i + 7) / 8 : Nat) : Int) (by omega) (by omega), e4,
      w64 (((i + 7) / 8 + 1 : Nat) : Int) (by omega) (by omega), if_pos (by omega), Int.toNat_natCast, if_pos (by omega), Option.bind_some, if_pos (by rw [List.length_replicate]; omega), List.length_replicate, body_zero]
    have e5 : wrap64 (wrap64 (8 * wrap64 ((((i + 7) / 8 + 1 : Nat) : Int) - 1)) - (i : Int)) % 256 = ((8 * ((i + 7) / 8) - i : Nat) : Int) := by
      rw [w64 ((((i + 7) / 8 + 1 : Nat) : Int) - 1) (by omega) (by omega), w64 (8 * _) (by omega) (by omega), w64 _ (by omega) (by omega)]; omega
    rw [e5]; rfl
  | d + 1, i, hd => by
    refine Ev.step (f := fun k => prim_PutFlags.l0 k m ((i + 1 : Nat) : Int)) (fun k => ?_) (pf_count m n hm hn hlt htop d (i + 1) (by omega))
    have hpos : 0 < m / 2 ^ i := by
      have h1 : 2 ^ (n - 1) ≤ m := Nat.ge_two_pow_of_testBit (htop (by omega))
      have h2 : 2 ^ i ≤ 2 ^ (n - 1) := Nat.pow_le_pow_right (by omega) (by omega)
      exact Nat.div_pos (by omega) (Nat.two_pow_pos i)
    simp only [prim_PutFlags.l0]
    rw [u64 (i : Int) (by omega) (by omega), if_pos (by omega), shr_i64_nat m i (by omega), if_pos (by omega), w64 _ (by omega) (by omega)]; rfl
theorem putflags_any (m n : Nat) (hm : m < 65536) (hn : n ≤ 16) (hlt : m < 2 ^ n) (htop : 0 < n → m.testBit (n - 1) = true) : Ev (fun k => prim_PutFlags.f k m) (strOfNums (flagBytes m n), 0) := by
  refine Ev.congr (f := fun k => prim_PutFlags.j0 k m false) (fun k => ?_) ?_
  · unfold prim_PutFlags.f
    rw [if_neg (by omega), show decide ((m : Int) > 65535) = false from decide_eq_false (by omega)]
  · exact Ev.step (f := fun k => prim_PutFlags.l0 k m ((0 : Nat) : Int)) (fun k => by simp only [prim_PutFlags.j0]; rw [if_neg (by decide)]; rfl) (pf_count m n hm hn hlt htop n 0 (by omega))
theorem putflags_no (v : Int) (h : v < 0 ∨ v > 65535) : Ev (fun k => prim_PutFlags.f k v) (⟨#[]⟩, 1) := by
  refine Ev.congr (f := fun k => prim_PutFlags.j0 k v true) (fun k => ?_) (Ev.step (f := fun _ => some (⟨#[]⟩, 1)) (fun k => by simp only [prim_PutFlags.j0]; rw [if_pos trivial]) (Ev.now _))
  unfold prim_PutFlags.f
  by_cases c : v < 0
  · rw [if_pos c]
  · rw [if_neg c, show decide (v > 65535) = true from decide_eq_true (by omega)]

theorem rpf_loop (m n : Nat) (hm : m < 65536) (hn : n ≤ 16) : ∀ (d i : Nat), i + d = n →
    Ev (fun k => certpathref01_PutFlags.l1 k m n (((8 * ((n + 7) / 8) - n : Nat) : Int) :: body m i ((n + 7) / 8)) i) (strOfNums (flagBytes m n), 0)
  | 0, i, hd => by
    obtain rfl : i = n := by omega
    exact Ev.step (f := fun _ => some (strOfNums (flagBytes m i), 0)) (fun k => by simp only [certpathref01_PutFlags.l1]; rw [if_neg (by omega)]; rfl) (Ev.now _)
  | d + 1, i, hd => by
    refine Ev.step (f := fun k => certpathref01_PutFlags.l1 k m n (((8 * ((n + 7) / 8) - n : Nat) : Int) :: body m (i + 1) ((n + 7) / 8)) ((i + 1 : Nat) : Int)) (fun k => ?_) (rpf_loop m n hm hn d (i + 1) (by omega))
    have e1 : Int.tdiv (i : Int) 8 = ((i / 8 : Nat) : Int) := by rw [Int.tdiv_eq_ediv_of_nonneg (by omega)]; omega
    have e2 : Int.tmod (i : Int) 8 = ((i % 8 : Nat) : Int) := by rw [Int.tmod_eq_emod_of_nonneg (by omega)]; omega
    have e4 : (1 : Int) + ((i / 8 : Nat) : Int) = ((i / 8 + 1 : Nat) : Int) := by omega
    have hdv : ((m / 2 ^ i : Nat) : Int) < 9223372036854775808 := cast_lt _ 9223372036854775808 _ rfl (Nat.lt_of_le_of_lt (Nat.div_le_self _ _) (by omega))
    have hbit : (Int.tmod ((m / 2 ^ i : Nat) : Int) 2 = 1) ↔ m.testBit i = true := by rw [Int.tmod_eq_emod_of_nonneg (Int.natCast_nonneg _), tb_div]; simp only [decide_eq_true_eq]; omega
    simp only [certpathref01_PutFlags.l1]
    rw [if_pos (by omega), if_pos (by omega), shr_i64_nat m i (by omega), e1, e2, w64 ((i / 8 : Nat) : Int) (by omega) (by omega), e4,
      w64 ((i / 8 + 1 : Nat) : Int) (by omega) (by omega), shr_128 _ (by omega),
      w64 ((i : Int) + 1) (by omega) (by omega), Int.toNat_natCast, List.set_cons_succ]
    have e5 : rd (((8 * ((n + 7) / 8) - n : Nat) : Int) :: body m i ((n + 7) / 8)) ((i / 8 + 1 : Nat) : Int) = ((pk (fun t => decide (8 * (i / 8) + t < i) && m.testBit (8 * (i / 8) + t)) 8 : Nat) : Int) := by
      unfold rd
      rw [Int.toNat_natCast, List.getD_cons_succ, List.getD_eq_getElem?_getD, List.getElem?_eq_getElem (by rw [body_length]; omega), Option.getD_some, body_get _ _ _ _ (by omega)]
    have hp : 2 ^ (7 - i % 8) ≤ 2 ^ 7 := Nat.pow_le_pow_right (by omega) (by omega)
    rw [e5, or_u8 _ _ (pk_lt _) (by omega)]
    by_cases c : m.testBit i = true
    · rw [if_pos (hbit.2 c), if_pos (by omega), if_pos (by rw [List.length_cons, body_length]; omega), if_pos (by omega), body_put m i _ c]; rfl
    · rw [if_neg (fun h => c (hbit.1 h)), body_skip m i _ (by simpa using c)]; rfl
theorem rpf_count (m n : Nat) (hm : m < 65536) (hn : n ≤ 16) (hlt : m < 2 ^ n) (htop : 0 < n → m.testBit (n - 1) = true) : ∀ (d i x : Nat), i + d = 16 → x ≤ i → (∀ t, x ≤ t → t < i → m.testBit t = false) → (0 < x → m.testBit (x - 1) = true) →
    Ev (fun k => certpathref01_PutFlags.l0 k m x i) (strOfNums (flagBytes m n), 0)
  | 0, i, x, hd, hxi, hx0, hx1 => by
    obtain rfl : i = 16 := by omega
    obtain rfl : x = n := by
      have hge : ∀ t, n ≤ t → m.testBit t = false := fun t ht => Nat.testBit_lt_two_pow (Nat.lt_of_lt_of_le hlt (Nat.pow_le_pow_right (by omega) ht))
      by_cases h1 : x < n
      · have a := htop (by omega)
        have b := hx0 (n - 1) (by omega) (by omega)
        rw [a] at b; cases b
      · by_cases h2 : n < x
        · have a := hx1 (by omega)
          have b := hge (x - 1) (by omega)
          rw [a] at b; cases b
        · omega
    refine Ev.step (f := fun k => certpathref01_PutFlags.l1 k m x (((8 * ((x + 7) / 8) - x : Nat) : Int) :: body m 0 ((x + 7) / 8)) ((0 : Nat) : Int)) (fun k => ?_) (rpf_loop m x hm hn x 0 (by omega))
    have e1 : Int.tdiv ((x : Int) + 7) 8 = (((x + 7) / 8 : Nat) : Int) := by rw [Int.tdiv_eq_ediv_of_nonneg (by omega)]; omega
    have e4 : (1 : Int) + (((x + 7) / 8 : Nat) : Int) = (((x + 7) / 8 + 1 : Nat) : Int) := by omega
    simp only [certpathref01_PutFlags.l0]
    rw [if_neg (by omega), w64 ((x : Int) + 7) (by omega) (by omega), e1, w64 (((x + 7) / 8 : Nat) : Int) (by omega) (by omega), e4,
      w64 (((x + 7) / 8 + 1 : Nat) : Int) (by omega) (by omega), if_pos (by omega), Int.toNat_natCast, if_pos (by omega), Option.bind_some, if_pos (by rw [List.length_replicate]; omega), body_zero]
    have e5 : wrap64 (wrap64 (8 * (((x + 7) / 8 : Nat) : Int)) - (x : Int)) % 256 = ((8 * ((x + 7) / 8) - x : Nat) : Int) := by
      rw [w64 (8 * _) (by omega) (by omega), w64 _ (by omega) (by omega)]; omega
    rw [e5]; rfl
  | d + 1, i, x, hd, hxi, hx0, hx1 => by
    have hbit : (Int.tmod ((m / 2 ^ i : Nat) : Int) 2 = 1) ↔ m.testBit i = true := by rw [Int.tmod_eq_emod_of_nonneg (Int.natCast_nonneg _), tb_div]; simp only [decide_eq_true_eq]; omega
    have hst : ∀ k, certpathref01_PutFlags.l0 (k + 1) m x i = if m.testBit i = true then certpathref01_PutFlags.l0 k m ((i + 1 : Nat) : Int) ((i + 1 : Nat) : Int) else certpathref01_PutFlags.l0 k m x ((i + 1 : Nat) : Int) := by
      intro k
      simp only [certpathref01_PutFlags.l0]
      rw [if_pos (by omega), if_pos (by omega), shr_i64_nat m i (by omega), w64 _ (by omega) (by omega)]
      by_cases c : m.testBit i = true
      · rw [if_pos c, if_pos (hbit.2 c)]; rfl
      · rw [if_neg c, if_neg (fun h => c (hbit.1 h))]; rfl
    by_cases c : m.testBit i = true
    · refine Ev.step (f := fun k => certpathref01_PutFlags.l0 k m ((i + 1 : Nat) : Int) ((i + 1 : Nat) : Int)) (fun k => by rw [hst, if_pos c]) (rpf_count m n hm hn hlt htop d (i + 1) (i + 1) (by omega) (by omega) (fun t h1 h2 => by omega) (fun _ => by simpa using c))
    · refine Ev.step (f := fun k => certpathref01_PutFlags.l0 k m x ((i + 1 : Nat) : Int)) (fun k => by rw [hst, if_neg c]) (rpf_count m n hm hn hlt htop d (i + 1) x (by omega) (by omega) (fun t h1 h2 => ?_) hx1)
      by_cases e : t = i
      · subst e; simpa using c
      · exact hx0 t h1 (by omega)
theorem rputflags_any (m n : Nat) (hm : m < 65536) (hn : n ≤ 16) (hlt : m < 2 ^ n) (htop : 0 < n → m.testBit (n - 1) = true) : Ev (fun k => certpathref01_PutFlags.f k m) (strOfNums (flagBytes m n), 0) := by
  refine Ev.congr (f := fun k => certpathref01_PutFlags.j0 k m false) (fun k => ?_) ?_
  · unfold certpathref01_PutFlags.f
    rw [if_neg (by omega), show decide ((m : Int) > 65535) = false from decide_eq_false (by omega)]
  · exact Ev.step (f := fun k => certpathref01_PutFlags.l0 k m ((0 : Nat) : Int) ((0 : Nat) : Int)) (fun k => by simp only [certpathref01_PutFlags.j0]; rw [if_neg (by decide)]; rfl) (rpf_count m n hm hn hlt htop 16 0 0 (by omega) (by omega) (fun t h1 h2 => by omega) (fun h => by omega))
theorem rputflags_no (v : Int) (h : v < 0 ∨ v > 65535) : Ev (fun k => certpathref01_PutFlags.f k v) (⟨#[]⟩, 1) := by
  refine Ev.congr (f := fun k => certpathref01_PutFlags.j0 k v true) (fun k => ?_) (Ev.step (f := fun _ => some (⟨#[]⟩, 1)) (fun k => by simp only [certpathref01_PutFlags.j0]; rw [if_pos trivial]) (Ev.now _))
  unfold certpathref01_PutFlags.f
  by_cases c : v < 0
  · rw [if_pos c]
  · rw [if_neg c, show decide (v > 65535) = true from decide_eq_true (by omega)]

theorem body_byte (m i L : Nat) : ∀ b ∈ body m i L, 0 ≤ b ∧ b < 256 := by
  intro b hb
  unfold body at hb
  rw [List.mem_map] at hb
  obtain ⟨j, _, rfl⟩ := hb
  exact ⟨Int.natCast_nonneg _, cast_lt _ 256 256 rfl (pk_lt _)⟩
theorem flagBytes_byte (m n : Nat) : ∀ b ∈ flagBytes m n, 0 ≤ b ∧ b < 256 := by
  intro b hb
  unfold flagBytes at hb
  rw [List.mem_cons] at hb
  rcases hb with rfl | hb
  · omega
  · exact body_byte _ _ _ b hb
theorem flags_back (m n : Nat) (hm : m < 65536) (hn : n ≤ 16) (hlt : m < 2 ^ n) (htop : 0 < n → m.testBit (n - 1) = true) :
    bitsOf (strOfNums (flagBytes m n)) = ((strOfNums (flagBytes m n)).extract 1 (strOfNums (flagBytes m n)).size, ((8 * ((n + 7) / 8) - n : Nat) : Int), 0) ∧
    8 * ((strOfNums (flagBytes m n)).extract 1 (strOfNums (flagBytes m n)).size).size = n + (8 * ((n + 7) / 8) - n) ∧
    flagsOf ((strOfNums (flagBytes m n)).extract 1 (strOfNums (flagBytes m n)).size) n = ((m : Int), 0) := by
  have hsz : (strOfNums (flagBytes m n)).size = (n + 7) / 8 + 1 := by rw [strOfNums_size]; unfold flagBytes; rw [List.length_cons, body_length]
  have hby : bytesOf (strOfNums (flagBytes m n)) = flagBytes m n := bytes_strOf _ (flagBytes_byte m n)
  have h0 : bt (strOfNums (flagBytes m n)) 0 = ((8 * ((n + 7) / 8) - n : Nat) : Int) := by rw [← rd_bytesOf, hby]; rfl
  have htl : bytesOf ((strOfNums (flagBytes m n)).extract 1 (strOfNums (flagBytes m n)).size) = body m n ((n + 7) / 8) := by rw [bytesOf_tail, hby]; rfl
  generalize hs : strOfNums (flagBytes m n) = s at *
  have hts := tail_size s (by omega)
  generalize hb : s.extract 1 s.size = b at *
  have hbt : ∀ j, j < (n + 7) / 8 → bt b (j : Int) = ((pk (fun t => decide (8 * j + t < n) && m.testBit (8 * j + t)) 8 : Nat) : Int) := by
    intro j hj
    rw [← rd_bytesOf, htl]
    unfold rd
    rw [Int.toNat_natCast, List.getD_eq_getElem?_getD, List.getElem?_eq_getElem (by rw [body_length]; omega), Option.getD_some, body_get _ _ _ _ hj]
  have hbit : ∀ k, k < n → bitAt b k = m.testBit k := by
    intro k hk
    unfold bitAt
    rw [hbt _ (by omega), Int.toNat_natCast, pk8, show 7 - (7 - k % 8) = k % 8 by omega, show 8 * (k / 8) + k % 8 = k by omega]
    simp [hk]
  have hsp : spareOK b ((8 * ((n + 7) / 8) - n : Nat) : Int) = true := by
    unfold spareOK
    by_cases hc : 8 * ((n + 7) / 8) - n = 0
    · rw [hc]; rfl
    · have e : ((b.size : Int) - 1) = (((n + 7) / 8 - 1 : Nat) : Int) := by omega
      rw [e, hbt _ (by omega), Int.toNat_natCast, ← pow_nat]
      have : (pk (fun t => decide (8 * ((n + 7) / 8 - 1) + t < n) && m.testBit (8 * ((n + 7) / 8 - 1) + t)) 8) % 2 ^ (8 * ((n + 7) / 8) - n) = 0 := by
        rw [mod_tb]
        intro t ht
        rw [pk8]
        have : ¬ (8 * ((n + 7) / 8 - 1) + (7 - t) < n) := by omega
        simp [this]
      have h2 : decide (b.size ≠ 0) = true := decide_eq_true (by omega)
      rw [h2, ← Int.natCast_emod, this]; simp
  refine ⟨?_, by omega, ?_⟩
  · unfold bitsOf
    rw [if_neg (by omega), h0, if_neg (by omega), hb, if_pos hsp]
  · unfold flagsOf
    rw [if_neg, if_neg (by omega)]
    · have : um (bitAt b) n = m := by
        apply Nat.eq_of_testBit_eq
        intro t
        rw [um_tb]
        by_cases ht : t < n
        · rw [hbit t ht]; simp [ht]
        · rw [Nat.testBit_lt_two_pow (Nat.lt_of_lt_of_le hlt (Nat.pow_le_pow_right (by omega) (by omega)))]; simp [ht]
      rw [this]
    · rintro ⟨h1, h2⟩
      rw [hbit _ (by omega), htop h1] at h2
      cases h2

theorem end_true (v w : Int) (hv : -9223372036854775808 ≤ v ∧ v ≤ 9223372036854775807) (hw : 0 ≤ w ∧ w ≤ 65535) :
    Ev (fun k => (prim_PutFlags.f k v).bind fun bt144 => (certpathref01_PutFlags.f k v).bind fun bt146 => (prim_PutFlags.f k (wrap64 w)).bind fun bt148 => (prim_Flags.f k bt148.1).bind fun bt150 => (certpathlaw03_awake.f k).bind fun t152 => if t152 = true then (if bt144.1.toList = bt146.1.toList then (if bt144.2 = bt146.2 then (if bt148.2 = 0 then (if bt150.2 = 0 then some (bt150.1 == wrap64 w) else some false) else some false) else some false) else some false) else some false) true := by
  have hputs : ∃ r, Ev (fun k => prim_PutFlags.f k v) r ∧ Ev (fun k => certpathref01_PutFlags.f k v) r := by
    by_cases h : v < 0 ∨ v > 65535
    · exact ⟨_, putflags_no v h, rputflags_no v h⟩
    · obtain ⟨m, rfl⟩ : ∃ m : Nat, v = (m : Int) := ⟨v.toNat, by omega⟩
      obtain ⟨n, h1, h2, h3⟩ := bitlen m 16 (by omega)
      exact ⟨_, putflags_any m n (by omega) h1 h2 h3, rputflags_any m n (by omega) h1 h2 h3⟩
  obtain ⟨r, hp, hq⟩ := hputs
  obtain ⟨m, rfl⟩ : ∃ m : Nat, w = (m : Int) := ⟨w.toNat, by omega⟩
  obtain ⟨n, h1, h2, h3⟩ := bitlen m 16 (by omega)
  rw [w64 (m : Int) (by omega) (by omega)]
  refine Ev.bind hp (Ev.bind hq (Ev.bind (putflags_any m n (by omega) h1 h2 h3) ?_))
  have hf := flags_any (strOfNums (flagBytes m n)) (by rw [strOfNums_size]; unfold flagBytes; rw [List.length_cons, body_length]; omega)
  obtain ⟨b1, b2, b3⟩ := flags_back m n (by omega) h1 h2 h3
  rw [b1] at hf
  simp only [if_true, Int.toNat_natCast] at hf
  rw [show 8 * ((strOfNums (flagBytes m n)).extract 1 (strOfNums (flagBytes m n)).size).size - (8 * ((n + 7) / 8) - n) = n by omega, b3] at hf
  refine Ev.bind hf (Ev.bind awake_true ?_)
  simp only [if_true, beq_self_eq_true]
  exact Ev.now _
theorem law_loop (v w : Int) (hv : -9223372036854775808 ≤ v ∧ v ≤ 9223372036854775807) (hw : 0 ≤ w ∧ w ≤ 65535) (xs : List ByteArray) (hx : ∀ x ∈ xs, x.size ≤ 140737488351232) (hl : xs.length < 100) : ∀ (d : Nat) (i : Int), 0 ≤ i → (xs.length : Int) - i = d →
    Ev (fun k => certpathlaw03_PrimFlags.l0 k v w xs xs.length i) true
  | 0, i, h0, hd => by
    refine Ev.step (f := fun k => _) (fun k => by simp only [certpathlaw03_PrimFlags.l0]; rw [if_neg (by omega)]) ?_
    exact end_true v w hv hw
  | d + 1, i, h0, hd => by
    have hs : (rdOf ByteArray.empty xs i).size ≤ 140737488351232 := by
      refine hx _ ?_
      unfold rdOf
      rw [List.getD_eq_getElem?_getD, List.getElem?_eq_getElem (by omega)]
      exact List.getElem_mem _
    refine Ev.step (f := fun k => (prim_Flags.f k (rdOf ByteArray.empty xs i)).bind fun bt140 => (certpathref01_Flags.f k (rdOf ByteArray.empty xs i)).bind fun bt142 => if bt140.1 = bt142.1 then (if bt140.2 = bt142.2 then certpathlaw03_PrimFlags.l0 k v w xs xs.length (i + 1) else some false) else some false) (fun k => ?_) ?_
    · simp only [certpathlaw03_PrimFlags.l0]; rw [if_pos (by omega), if_pos h0, if_pos (by omega), w64 (i + 1) (by omega) (by omega)]
    · refine Ev.bind (flags_any _ hs) ?_
      refine Ev.bind (rflags_any _ hs) ?_
      simp only [if_true]
      exact law_loop v w hv hw xs hx hl d (i + 1) (by omega) (by omega)

theorem PrimFlags : certpathlaw03_PrimFlags.Pure := by
  intro c v w first b hc hv hw hfi hb
  have hv' : -9223372036854775808 ≤ v ∧ v ≤ 9223372036854775807 := by simp [Lit.wf, IntKind.min, IntKind.max, IntKind.bits, IntKind.signed] at hv; omega
  have hw' : 0 ≤ w ∧ w ≤ 65535 := by simp [Lit.wf, IntKind.min, IntKind.max, IntKind.bits, IntKind.signed] at hw; omega
  apply Ev.rounds
  unfold certpathlaw03_PrimFlags.f
  by_cases h : (c.size : Int) > 20
  · refine Ev.congr (fun k => by rw [if_pos h]) ?_
    exact Ev.bind awake_true (Ev.now _)
  · refine Ev.congr (fun k => by rw [if_neg h, Option.bind_some]) ?_
    refine law_loop v w hv' hw' _ ?_ (by simp) 3 0 (by omega) (by simp)
    intro x hx
    simp only [List.mem_cons, List.not_mem_nil, or_false] at hx
    rcases hx with rfl | rfl | rfl
    · exact hc
    · rw [strOfNums_size]; simp
    · rw [strOfNums_size]; simp

end Go.Proofs.Ytpiakeejfggocaa.Pure
