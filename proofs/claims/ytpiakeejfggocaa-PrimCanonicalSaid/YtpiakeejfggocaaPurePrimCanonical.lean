/- For every string: what Boolean, Integer, Bits or Flags of the program accepts is what the matching Put function writes (no condition). -/
import Derived.Test.YtpiakeejfggocaaQx21
import Derived.Test.YtpiakeejfggocaaBit
import Derived.KernelRfl
set_option linter.unusedVariables false
set_option linter.unusedSimpArgs false
namespace Go.Proofs.Ytpiakeejfggocaa.Pure
open Go Go.RowKit Go.Proofs.Ytpiakeejfggocaa.Q Go.Proofs.YtpiakeejfggocaaW.PrintWords Go.Proofs.YtpiakeejfggocaaW.PrintLast Go.Proofs.YtpiakeejfggocaaW.PrintMore Go.Proofs.Ytpiakeejfggocaa.Num

theorem awake_true : Ev (fun k => certpathlaw03_awake.f k) true :=
  Ev.of certpathlaw03_awake.mono (k := 12) (by
    unfold certpathlaw03_awake.f
    have e1 : prim_PutFlags.f 12 6 = some (strOfNums [5, 96], 0) := by kernel_rfl
    have e2 : prim_PutInteger.f 12 128 = some (strOfNums [0, 128]) := by kernel_rfl
    have e3 : prim_PutInteger.f 12 (-1) = some (strOfNums [255]) := by kernel_rfl
    rw [e1, e2, e3]
    simp [Lib.toList_data, strOfNums])

/-- Are the contents of an integer refused? -/
def bad (s : ByteArray) : Bool := decide (s.size = 0) || (decide (1 < s.size) && ((decide (bt s 0 = 0) && decide (bt s 1 < 128)) || (decide (bt s 0 = 255) && decide (bt s 1 ≥ 128))))
def sgn (s : ByteArray) : Int := if bt s 0 ≥ 128 then -1 else 0
def intOf (s : ByteArray) : Int × Int := if bad s = true then (0, 7) else if s.size > 8 then (0, 1) else (wrap64 (be (sgn s) (bytesOf s)), 0)

theorem int_door (s : ByteArray) (k : Nat) : prim_Integer.f k s = prim_Integer.j0 k s (bad s) := by
  unfold prim_Integer.f bad
  by_cases h0 : s.size = 0
  · rw [if_pos ((toList_nil_iff s).2 (by omega))]; simp [h0]
  · rw [if_neg (fun h => h0 (by have := (toList_nil_iff s).1 h; omega))]
    by_cases h1 : 1 < s.size
    · rw [if_pos (by omega), if_pos (by omega), if_pos (by omega : (1 : Int) < s.size)]
      by_cases h2 : bt s 0 = 0
      · by_cases h3 : bt s 1 < 128 <;> simp [h0, h1, h2, h3]
      · by_cases h4 : bt s 0 = 255 <;> simp [h0, h1, h2, h4]
        omega
    · rw [if_neg (by omega)]; simp [h0, h1]
theorem int_loop (s : ByteArray) (hs : s.size ≤ 140737488351232) : ∀ (d : Nat) (i : Nat) (x : Int), (s.size : Int) - 1 - i = d →
    Ev (fun k => prim_Integer.l0 k s (wrap64 x) ((s.size : Int) - 1) i) (wrap64 (be x ((bytesOf s).drop (i + 1))), 0)
  | 0, i, x, hd => by
    refine Ev.step (f := fun k => some (wrap64 x, 0)) (fun k => by simp only [prim_Integer.l0]; rw [if_neg (by omega)]) ?_
    rw [List.drop_of_length_le (by rw [bytesOf_length]; omega), be_nil]
    exact Ev.now _
  | d + 1, i, x, hd => by
    have hb := bt_range s ((i : Int) + 1)
    have e1 : wrap64 ((i : Int) + 1) = (i : Int) + 1 := w64 _ (by omega) (by omega)
    refine Ev.step (f := fun k => prim_Integer.l0 k s (wrap64 (x * 256 + bt s ((i : Int) + 1))) ((s.size : Int) - 1) ((i + 1 : Nat) : Int)) (fun k => ?_) ?_
    · simp only [prim_Integer.l0]
      rw [if_pos (by omega), e1, if_pos (by omega), if_pos (by omega), w64 (bt s _) (by omega) (by omega), or_i64 _ _ hb.1 (by omega)]
      rw [wrap64_congr (a := wrap64 x * 256 + bt s ((i : Int) + 1)) (b := x * 256 + bt s ((i : Int) + 1)) (by have := wrap64_mod x; omega)]
      rfl
    · have := int_loop s hs d (i + 1) (x * 256 + bt s ((i : Int) + 1)) (by omega)
      rw [drop_bt s (i + 1) (by omega), be_cons]
      exact this
theorem int_any (s : ByteArray) (hs : s.size ≤ 140737488351232) : Ev (fun k => prim_Integer.f k s) (intOf s) := by
  refine Ev.congr (int_door s) ?_
  unfold intOf
  by_cases h : bad s = true
  · rw [if_pos h, h]
    exact Ev.step (f := fun _ => some (0, 7)) (fun k => by simp only [prim_Integer.j0]; rw [if_pos trivial]) (Ev.now _)
  · have hz : s.size ≠ 0 := fun e => h (by unfold bad; simp [e])
    rw [if_neg h, (by simpa using h : bad s = false)]
    by_cases h8 : s.size > 8
    · rw [if_pos h8]
      exact Ev.step (f := fun _ => some (0, 1)) (fun k => by simp only [prim_Integer.j0]; rw [if_neg (by decide), if_pos (by omega)]) (Ev.now _)
    · rw [if_neg h8]
      have hb := bt_range s 0
      refine Ev.step (f := fun k => prim_Integer.l0 k s (wrap64 (sgn s * 256 + bt s 0)) ((s.size : Int) - 1) (0 : Nat)) (fun k => ?_) ?_
      · simp only [prim_Integer.j0]
        rw [if_neg (by decide), if_neg (by omega), if_pos (by omega), w64 ((s.size : Int) - 1) (by omega) (by omega), i8w]
        congr 2
        unfold sgn; split <;> omega
      · have := int_loop s hs (s.size - 1) 0 (sgn s * 256 + bt s 0) (by omega)
        have e : bytesOf s = bt s 0 :: (bytesOf s).drop (0 + 1) := drop_bt s 0 (by omega)
        rw [← be_cons, ← e] at this
        exact this

theorem put_loop (v : Int) (n : Nat) (hn : n ≤ 8) : ∀ (d i : Nat) (acc : List Int), i + d = n → acc ++ enc d v = enc n v →
    Ev (fun k => prim_PutInteger.l1 k v n acc n i) (strOfNums (enc n v))
  | 0, i, acc, hd, ha => by
    refine Ev.step (f := fun k => some (strOfNums acc)) (fun k => by simp only [prim_PutInteger.l1]; rw [if_neg (by omega)]) ?_
    rw [← ha]; simp only [enc, List.append_nil]
    exact Ev.now _
  | d + 1, i, acc, hd, ha => by
    have hl : acc.length ≤ 8 := by
      have := congrArg List.length ha
      rw [List.length_append, enc_length, enc_length] at this
      omega
    refine Ev.step (f := fun k => prim_PutInteger.l1 k v n (acc ++ [v / 256 ^ d % 256]) n ((i + 1 : Nat) : Int)) (fun k => ?_) ?_
    · simp only [prim_PutInteger.l1]
      have e : IntKind.u64.wrap (8 * IntKind.u64.wrap (wrap64 (wrap64 ((n : Int) - 1) - i))) = ((8 * d : Nat) : Int) := by
        rw [w64 ((n : Int) - 1) (by omega) (by omega), w64 _ (by omega) (by omega), u64 ((n : Int) - 1 - i) (by omega) (by omega), u64 _ (by omega) (by omega)]; omega
      rw [if_pos (by omega), e, if_pos (by omega), if_pos (by omega), shr_i64 v d (by omega), w64 ((i : Int) + 1) (by omega) (by omega)]
      rfl
    · refine put_loop v n hn d (i + 1) _ (by omega) ?_
      rw [List.append_assoc, List.singleton_append, ← enc_cons]; exact ha
theorem put_count (v : Int) (n : Nat) (hn : n ≤ 8) (hf : fits n v) (hlt : ∀ m, 1 ≤ m → m < n → ¬ fits m v) : ∀ (d j : Nat), j + 1 + d = n →
    Ev (fun k => prim_PutInteger.l0 k v ((j + 1 : Nat) : Int) (v / 256 ^ j)) (strOfNums (enc n v))
  | 0, j, hd => by
    obtain rfl : n = j + 1 := by omega
    rw [fits_succ] at hf
    refine Ev.step (f := fun k => prim_PutInteger.l1 k v ((j + 1 : Nat) : Int) [] ((j + 1 : Nat) : Int) ((0 : Nat) : Int)) (fun k => ?_) (put_loop v (j + 1) hn (j + 1) 0 [] (by omega) rfl)
    simp only [prim_PutInteger.l0]; rw [if_neg (by omega), if_neg (by omega)]; rfl
  | d + 1, j, hd => by
    have hnf := hlt (j + 1) (by omega) (by omega)
    rw [fits_succ] at hnf
    refine Ev.step (f := fun k => prim_PutInteger.l0 k v ((j + 1 + 1 : Nat) : Int) (v / 256 ^ (j + 1))) (fun k => ?_) (put_count v n hn hf hlt d (j + 1) (by omega))
    simp only [prim_PutInteger.l0]
    rw [div_pow', w64 _ (by omega) (by omega)]
    by_cases h : v / 256 ^ j < -128
    · rw [if_pos h]; rfl
    · rw [if_neg h, if_pos (by omega)]; rfl
theorem put_any (v : Int) (n : Nat) (h1 : 1 ≤ n) (hn : n ≤ 8) (hf : fits n v) (hlt : ∀ m, 1 ≤ m → m < n → ¬ fits m v) :
    Ev (fun k => prim_PutInteger.f k v) (strOfNums (enc n v)) := by
  have := put_count v n hn hf hlt (n - 1) 0 (by omega)
  refine Ev.congr (fun k => ?_) this
  unfold prim_PutInteger.f
  simp

/-- Are the unused bits of the last byte 0? -/
def spareOK (s : ByteArray) (u : Int) : Bool := decide (u = 0) || (decide (s.size ≠ 0) && decide (bt s ((s.size : Int) - 1) % 2 ^ u.toNat = 0))
def bitsOf (s : ByteArray) : ByteArray × Int × Int :=
  if s.size = 0 then (⟨#[]⟩, 0, 7) else if bt s 0 > 7 then (⟨#[]⟩, 0, 7) else if spareOK (s.extract 1 s.size) (bt s 0) = true then (s.extract 1 s.size, bt s 0, 0) else (⟨#[]⟩, 0, 7)
theorem tail_size (s : ByteArray) (h : s.size ≠ 0) : (s.extract 1 s.size).size = s.size - 1 := by rw [ByteArray.size_extract]; omega
theorem spare_any (s : ByteArray) (u : Int) (hs : s.size ≤ 140737488351232) (h0 : 0 ≤ u) (h7 : u ≤ 7) : prim_spare.f s u = some (spareOK s u) := by
  unfold prim_spare.f spareOK
  by_cases hu : u = 0
  · rw [if_pos hu]; simp [hu]
  · rw [if_neg hu]
    by_cases hz : s.size = 0
    · rw [if_pos ((toList_nil_iff s).2 (by omega))]; simp [hu, hz]
    · have hb := bt_range s ((s.size : Int) - 1)
      obtain ⟨n, rfl⟩ : ∃ n : Nat, u = (n : Int) := ⟨u.toNat, by omega⟩
      rw [if_neg (fun h => hz (by have := (toList_nil_iff s).1 h; omega)), w64 ((s.size : Int) - 1) (by omega) (by omega), if_pos (by omega), if_pos (by omega), u64 _ (by omega) (by omega), if_pos (by omega),
        shl_u8 n (by omega)]
      have hp : 2 ^ n ≤ 128 := Nat.pow_le_pow_right (by omega : 0 < 2) (show n ≤ 7 by omega)
      have hp1 : 0 < 2 ^ n := Nat.two_pow_pos n
      have e : (((2 ^ n : Nat) : Int) - 1) % 256 = 2 ^ n - 1 := by rw [← pow_nat]; omega
      rw [e, and_u8 _ n (by omega) hb.1 (by omega), Int.toNat_natCast]
      have hn : n ≠ 0 := by omega
      by_cases c : bt s ((s.size : Int) - 1) % 2 ^ n = 0 <;> simp [c, hn, hz]
theorem bits_any (s : ByteArray) (hs : s.size ≤ 140737488351232) : prim_Bits.f s = some (bitsOf s) := by
  unfold prim_Bits.f bitsOf
  by_cases hz : s.size = 0
  · rw [if_pos ((toList_nil_iff s).2 (by omega)), if_pos hz]
  · rw [if_neg (fun h => hz (by have := (toList_nil_iff s).1 h; omega)), if_pos (by omega), if_neg hz]
    by_cases h7 : bt s 0 > 7
    · rw [if_pos h7, if_pos h7]
    · have hb := bt_range s 0
      rw [if_neg h7, if_neg h7, if_pos (by omega), w64 (bt s 0) (by omega) (by omega), spare_any _ _ (by rw [tail_size s hz]; omega) hb.1 (by omega), Option.bind_some]
      by_cases c : spareOK (s.extract 1 s.size) (bt s 0) = true
      · rw [if_pos c, if_pos c]
      · rw [if_neg c, if_neg c]

def putBitsOf (s : ByteArray) (u : Int) : ByteArray × Int :=
  if u < 0 ∨ u > 7 then (⟨#[]⟩, 1) else if spareOK s u = true then (strOfNums [u % 256] ++ s, 0) else (⟨#[]⟩, 7)
theorem putbits_any (s : ByteArray) (u : Int) (hs : s.size ≤ 140737488351232) : Ev (fun k => prim_PutBits.f k s u) (putBitsOf s u) := by
  refine Ev.congr (f := fun k => prim_PutBits.j0 k s u (decide (u < 0 ∨ u > 7))) (fun k => ?_) ?_
  · unfold prim_PutBits.f
    by_cases h : u < 0
    · rw [if_pos h]; simp [h]
    · rw [if_neg h]; simp [h]
  · refine Ev.step (f := fun _ => some (putBitsOf s u)) (fun k => ?_) (Ev.now _)
    simp only [prim_PutBits.j0]
    unfold putBitsOf
    by_cases h : u < 0 ∨ u > 7
    · rw [if_pos (decide_eq_true h), if_pos h]
    · rw [if_neg (by simpa using h), if_neg h, spare_any s u hs (by omega) (by omega), Option.bind_some, Option.bind_some]
      by_cases c : spareOK s u = true
      · rw [if_pos c, if_pos c, if_pos (by rw [strOfNums_size]; simp; omega)]
      · rw [if_neg c, if_neg c]

def bitAt (b : ByteArray) (k : Nat) : Bool := (bt b ((k / 8 : Nat) : Int)).toNat.testBit (7 - k % 8)
def flagsOf (b : ByteArray) (N : Nat) : Int × Int := if 0 < N ∧ bitAt b (N - 1) = false then (0, 7) else if N > 16 then (0, 1) else ((um (bitAt b) N : Nat), 0)
theorem bits_cases (s : ByteArray) : bitsOf s = (⟨#[]⟩, 0, 7) ∨ ∃ (u N : Nat), s.size ≠ 0 ∧ bt s 0 = (u : Int) ∧ u ≤ 7 ∧ spareOK (s.extract 1 s.size) u = true ∧ 8 * (s.extract 1 s.size).size = N + u ∧ bitsOf s = (s.extract 1 s.size, (u : Int), 0) := by
  unfold bitsOf
  by_cases hz : s.size = 0
  · exact .inl (by rw [if_pos hz])
  · by_cases h7 : bt s 0 > 7
    · exact .inl (by rw [if_neg hz, if_pos h7])
    · by_cases c : spareOK (s.extract 1 s.size) (bt s 0) = true
      · have hb := bt_range s 0
        refine .inr ⟨(bt s 0).toNat, 8 * (s.extract 1 s.size).size - (bt s 0).toNat, hz, by omega, by omega, ?_, ?_, ?_⟩
        · rw [Int.toNat_of_nonneg hb.1]; exact c
        · by_cases h0 : bt s 0 = 0
          · omega
          · have : (s.extract 1 s.size).size ≠ 0 := by
              unfold spareOK at c
              simp only [Bool.or_eq_true, Bool.and_eq_true, decide_eq_true_eq] at c
              rcases c with c | c
              · exact absurd c h0
              · exact c.1
            omega
        · rw [if_neg hz, if_neg h7, if_pos c, Int.toNat_of_nonneg hb.1]
      · exact .inl (by rw [if_neg hz, if_neg h7, if_neg c])
theorem bit_any (b : ByteArray) (k : Nat) (hb : b.size ≤ 140737488351232) (hk : k < 8 * b.size) : prim_bit.f b k = some (bitAt b k) := by
  have e1 : Int.tdiv (k : Int) 8 = ((k / 8 : Nat) : Int) := by rw [Int.tdiv_eq_ediv_of_nonneg (by omega)]; omega
  have e2 : Int.tmod (k : Int) 8 = ((k % 8 : Nat) : Int) := by rw [Int.tmod_eq_emod_of_nonneg (by omega)]; omega
  have e3 : (7 : Int) - ((k % 8 : Nat) : Int) = ((7 - k % 8 : Nat) : Int) := by omega
  obtain ⟨x, hx, ex⟩ := bt_nat b ((k / 8 : Nat) : Int)
  have hd : ((x / 2 ^ (7 - k % 8) : Nat) : Int) < 256 := cast_lt _ 256 256 rfl (Nat.lt_of_le_of_lt (Nat.div_le_self _ _) hx)
  unfold prim_bit.f bitAt
  rw [e1, e2, w64 _ (by omega) (by omega), if_pos (by omega), if_pos (by omega), u64 ((k % 8 : Nat) : Int) (by omega) (by omega), e3, u64 _ (by omega) (by omega), if_pos (by omega), ex,
    shr_u8 x _ (by omega), and_u8_one _ (Int.natCast_nonneg _) hd, Int.toNat_natCast, tb_div]
  congr 1
  rw [Bool.eq_iff_iff]; simp only [beq_iff_eq, decide_eq_true_eq]; omega
theorem flags_loop (b : ByteArray) (hb : b.size ≤ 140737488351232) (n : Nat) (hn : n ≤ 16) (hs : n ≤ 8 * b.size) : ∀ (d i : Nat), i + d = n →
    Ev (fun k => prim_Flags.l0 k b ((um (bitAt b) i : Nat) : Int) n i) (((um (bitAt b) n : Nat) : Int), 0)
  | 0, i, hd => by
    obtain rfl : i = n := by omega
    refine Ev.step (f := fun _ => some (((um (bitAt b) i : Nat) : Int), 0)) (fun k => by simp only [prim_Flags.l0]; rw [if_neg (by omega)]) (Ev.now _)
  | d + 1, i, hd => by
    refine Ev.step (f := fun k => prim_Flags.l0 k b ((um (bitAt b) (i + 1) : Nat) : Int) n ((i + 1 : Nat) : Int)) (fun k => ?_) (flags_loop b hb n hn hs d (i + 1) (by omega))
    have hu := um_lt (bitAt b) i
    have hp : 2 ^ i ≤ 2 ^ 15 := Nat.pow_le_pow_right (by omega) (by omega)
    simp only [prim_Flags.l0]
    rw [if_pos (by omega), bit_any b i hb (by omega), Option.bind_some, u64 (i : Int) (by omega) (by omega), w64 ((i : Int) + 1) (by omega) (by omega), if_pos (by omega : (0 : Int) ≤ i), shl_i64 i (by omega), or_i64_nat (um (bitAt b) i) (2 ^ i) (by omega) (by omega), um_succ]
    by_cases c : bitAt b i = true
    · rw [if_pos c, if_pos c]; rfl
    · rw [if_neg c, if_neg c]; rfl
theorem flags_any (s : ByteArray) (hs : s.size ≤ 140737488351232) : Ev (fun k => prim_Flags.f k s) (if (bitsOf s).2.2 = 0 then flagsOf (bitsOf s).1 (8 * (bitsOf s).1.size - (bitsOf s).2.1.toNat) else (0, 7)) := by
  rcases bits_cases s with h | ⟨u, N, hz, hu0, hu, hsp, hN, h⟩
  · refine Ev.congr (f := fun _ => some (0, 7)) (fun k => ?_) (by rw [h]; exact Ev.now _)
    unfold prim_Flags.f
    rw [bits_any s hs, h, Option.bind_some]; rfl
  · rw [h]
    generalize hb : s.extract 1 s.size = b at *
    have hbs : b.size ≤ 140737488351232 := by rw [← hb, tail_size s hz]; omega
    rw [if_pos rfl, Int.toNat_natCast, show 8 * b.size - u = N by omega]
    refine Ev.congr (f := fun k => prim_Flags.j0 k b N (decide (0 < N ∧ bitAt b (N - 1) = false))) (fun k => ?_) ?_
    · unfold prim_Flags.f
      rw [bits_any s hs, h, Option.bind_some]
      have e : wrap64 (wrap64 (8 * (b.size : Int)) - (u : Int)) = (N : Int) := by rw [w64 (8 * (b.size : Int)) (by omega) (by omega), w64 _ (by omega) (by omega)]; omega
      simp only [e, if_true]
      by_cases c : 0 < N
      · have e2 : wrap64 ((N : Int) - 1) = ((N - 1 : Nat) : Int) := by rw [w64 _ (by omega) (by omega)]; omega
        rw [if_pos (by omega), e2, bit_any b (N - 1) hbs (by omega), Option.bind_some]
        congr 1
        cases bitAt b (N - 1) <;> simp [c]
      · rw [if_neg (by omega)]
        congr 1
        simp [c]
    · unfold flagsOf
      by_cases c : 0 < N ∧ bitAt b (N - 1) = false
      · rw [if_pos c, decide_eq_true c]
        exact Ev.step (f := fun _ => some (0, 7)) (fun k => by simp only [prim_Flags.j0]; rw [if_pos trivial]) (Ev.now _)
      · rw [if_neg c, decide_eq_false c]
        by_cases g : N > 16
        · rw [if_pos g]
          exact Ev.step (f := fun _ => some (0, 1)) (fun k => by simp only [prim_Flags.j0]; rw [if_neg (by decide), if_pos (by omega)]) (Ev.now _)
        · rw [if_neg g]
          refine Ev.step (f := fun k => prim_Flags.l0 k b ((um (bitAt b) 0 : Nat) : Int) N ((0 : Nat) : Int)) (fun k => ?_) (flags_loop b hbs N (by omega) (by omega) N 0 (by omega))
          simp only [prim_Flags.j0]; rw [if_neg (by decide), if_neg (by omega)]; rfl

def body (m i L : Nat) : List Int := (List.range L).map fun j => ((pk (fun t => decide (8 * j + t < i) && m.testBit (8 * j + t)) 8 : Nat) : Int)
def flagBytes (m n : Nat) : List Int := ((8 * ((n + 7) / 8) - n : Nat) : Int) :: body m n ((n + 7) / 8)
theorem body_length (m i L : Nat) : (body m i L).length = L := by simp [body]
theorem body_zero (m L : Nat) : body m 0 L = List.replicate L 0 := by
  unfold body
  rw [List.eq_replicate_iff]
  refine ⟨by simp, fun b hb => ?_⟩
  rw [List.mem_map] at hb
  obtain ⟨j, _, rfl⟩ := hb
  have : pk (fun t => decide (8 * j + t < 0) && m.testBit (8 * j + t)) 8 = 0 := by
    apply Nat.eq_of_testBit_eq
    intro t
    rw [pk8]; simp
  rw [this]; rfl
theorem body_skip (m i L : Nat) (h : m.testBit i = false) : body m (i + 1) L = body m i L := by
  unfold body
  apply List.map_congr_left
  intro j _
  congr 1
  apply Nat.eq_of_testBit_eq
  intro t
  rw [pk8, pk8]
  by_cases e : 8 * j + (7 - t) = i
  · rw [e, h]; simp
  · have : decide (8 * j + (7 - t) < i + 1) = decide (8 * j + (7 - t) < i) := by rw [decide_eq_decide]; omega
    rw [this]
theorem body_get (m i L j : Nat) (h : j < L) : (body m i L)[j]'(by rw [body_length]; exact h) = ((pk (fun t => decide (8 * j + t < i) && m.testBit (8 * j + t)) 8 : Nat) : Int) := by
  simp [body]
theorem body_put (m i L : Nat) (h : m.testBit i = true) : (body m i L).set (i / 8) ((pk (fun t => decide (8 * (i / 8) + t < i) && m.testBit (8 * (i / 8) + t)) 8 ||| 2 ^ (7 - i % 8) : Nat) : Int) = body m (i + 1) L := by
  apply List.ext_getElem
  · simp [body_length]
  · intro j h1 h2
    rw [body_length] at h2
    rw [List.getElem_set, body_get _ _ _ _ h2, body_get _ _ _ _ h2]
    by_cases e : i / 8 = j
    · rw [if_pos e]
      subst e
      congr 1
      apply Nat.eq_of_testBit_eq
      intro t
      rw [Nat.testBit_or, pk8, pk8, Nat.testBit_two_pow]
      by_cases ht : t ≤ 7
      · by_cases e2 : 7 - i % 8 = t
        · have e3 : 8 * (i / 8) + (7 - t) = i := by omega
          rw [e3, h]; simp [ht, e2]
        · have e3 : decide (8 * (i / 8) + (7 - t) < i + 1) = decide (8 * (i / 8) + (7 - t) < i) := by rw [decide_eq_decide]; omega
          rw [e3]; simp [e2]
      · have e2 : ¬ (7 - i % 8 = t) := by omega
        simp [ht, e2]
    · rw [if_neg e]
      congr 1
      apply Nat.eq_of_testBit_eq
      intro t
      rw [pk8, pk8]
      by_cases ht : t ≤ 7
      · have e3 : decide (8 * j + (7 - t) < i + 1) = decide (8 * j + (7 - t) < i) := by rw [decide_eq_decide]; omega
        rw [e3]
      · simp [ht]
theorem pf_loop (m n : Nat) (hm : m < 65536) (hn : n ≤ 16) : ∀ (d i : Nat), i + d = n →
    Ev (fun k => prim_PutFlags.l1 k m (((8 * ((n + 7) / 8) - n : Nat) : Int) :: body m i ((n + 7) / 8)) n i) (strOfNums (flagBytes m n), 0)
  | 0, i, hd => by
    obtain rfl : i = n := by omega
    exact Ev.step (f := fun _ => some (strOfNums (flagBytes m i), 0)) (fun k => by simp only [prim_PutFlags.l1]; rw [if_neg (by omega)]; rfl) (Ev.now _)
  | d + 1, i, hd => by
    refine Ev.step (f := fun k => prim_PutFlags.l1 k m (((8 * ((n + 7) / 8) - n : Nat) : Int) :: body m (i + 1) ((n + 7) / 8)) n ((i + 1 : Nat) : Int)) (fun k => ?_) (pf_loop m n hm hn d (i + 1) (by omega))
    have e1 : Int.tdiv (i : Int) 8 = ((i / 8 : Nat) : Int) := by rw [Int.tdiv_eq_ediv_of_nonneg (by omega)]; omega
    have e2 : Int.tmod (i : Int) 8 = ((i % 8 : Nat) : Int) := by rw [Int.tmod_eq_emod_of_nonneg (by omega)]; omega
    have e3 : (7 : Int) - ((i % 8 : Nat) : Int) = ((7 - i % 8 : Nat) : Int) := by omega
    have e4 : (1 : Int) + ((i / 8 : Nat) : Int) = ((i / 8 + 1 : Nat) : Int) := by omega
    have hdv : ((m / 2 ^ i : Nat) : Int) < 9223372036854775808 := cast_lt _ 9223372036854775808 _ rfl (Nat.lt_of_le_of_lt (Nat.div_le_self _ _) (by omega))
    have hbit : (((m / 2 ^ i : Nat) : Int) % 2 = 1) ↔ m.testBit i = true := by rw [tb_div]; simp only [decide_eq_true_eq]; omega
    simp only [prim_PutFlags.l1]
    rw [if_pos (by omega), u64 (i : Int) (by omega) (by omega), if_pos (by omega), shr_i64_nat m i (by omega), and_i64_one _ (Int.natCast_nonneg _) hdv, e1, e2, w64 ((i / 8 : Nat) : Int) (by omega) (by omega), e4,
      w64 ((i / 8 + 1 : Nat) : Int) (by omega) (by omega), u64 ((i % 8 : Nat) : Int) (by omega) (by omega), e3, u64 ((7 - i % 8 : Nat) : Int) (by omega) (by omega),
      shl_u8 _ (by omega), w64 ((i : Int) + 1) (by omega) (by omega), Int.toNat_natCast, List.set_cons_succ]
    have e5 : rd (((8 * ((n + 7) / 8) - n : Nat) : Int) :: body m i ((n + 7) / 8)) ((i / 8 + 1 : Nat) : Int) = ((pk (fun t => decide (8 * (i / 8) + t < i) && m.testBit (8 * (i / 8) + t)) 8 : Nat) : Int) := by
      unfold rd
      rw [Int.toNat_natCast, List.getD_cons_succ, List.getD_eq_getElem?_getD, List.getElem?_eq_getElem (by rw [body_length]; omega), Option.getD_some, body_get _ _ _ _ (by omega)]
    have hp : 2 ^ (7 - i % 8) ≤ 2 ^ 7 := Nat.pow_le_pow_right (by omega) (by omega)
    rw [e5, or_u8 _ _ (pk_lt _) (by omega)]
    by_cases c : m.testBit i = true
    · rw [if_pos (hbit.2 c), if_pos (by omega), if_pos (by rw [List.length_cons, body_length]; omega), if_pos (by omega), body_put m i _ c]; rfl
    · rw [if_neg (fun h => c (hbit.1 h)), body_skip m i _ (by simpa using c)]; rfl
theorem pf_count (m n : Nat) (hm : m < 65536) (hn : n ≤ 16) (hlt : m < 2 ^ n) (htop : 0 < n → m.testBit (n - 1) = true) : ∀ (d i : Nat), i + d = n →
    Ev (fun k => prim_PutFlags.l0 k m i) (strOfNums (flagBytes m n), 0)
  | 0, i, hd => by
    obtain rfl : i = n := by omega
    refine Ev.step (f := fun k => prim_PutFlags.l1 k m (((8 * ((i + 7) / 8) - i : Nat) : Int) :: body m 0 ((i + 7) / 8)) i ((0 : Nat) : Int)) (fun k => ?_) (pf_loop m i hm hn i 0 (by omega))
    have e1 : Int.tdiv ((i : Int) + 7) 8 = (((i + 7) / 8 : Nat) : Int) := by rw [Int.tdiv_eq_ediv_of_nonneg (by omega)]; omega
    have e4 : (1 : Int) + (((i + 7) / 8 : Nat) : Int) = (((i + 7) / 8 + 1 : Nat) : Int) := by omega
    simp only [prim_PutFlags.l0]
    rw [u64 (i : Int) (by omega) (by omega), if_pos (by omega), shr_i64_nat m i (by omega), Nat.div_eq_of_lt hlt, if_neg (by omega), w64 ((i : Int) + 7) (by omega) (by omega), e1, w64 (((i + 7) / 8 : Nat) : Int) (by omega) (by omega), e4,
      w64 (((i + 7) / 8 + 1 : Nat) : Int) (by omega) (by omega), if_pos (by omega), Int.toNat_natCast, if_pos (by omega), Option.bind_some, if_pos (by rw [List.length_replicate]; omega), List.length_replicate, body_zero]
    have e5 : wrap64 (wrap64 (8 * wrap64 ((((i + 7) / 8 + 1 : Nat) : Int) - 1)) - (i : Int)) % 256 = ((8 * ((i + 7) / 8) - i : Nat) : Int) := by
      rw [w64 ((((i + 7) / 8 + 1 : Nat) : Int) - 1) (by omega) (by omega), w64 (8 * _) (by omega) (by omega), w64 _ (by omega) (by omega)]; omega
    rw [e5]; rfl
  | d + 1, i, hd => by
    refine Ev.step (f := fun k => prim_PutFlags.l0 k m ((i + 1 : Nat) : Int)) (fun k => ?_) (pf_count m n hm hn hlt htop d (i + 1) (by omega))
    have hpos : 0 < m / 2 ^ i := by
      have h1 : 2 ^ (n - 1) ≤ m := Nat.ge_two_pow_of_testBit (htop (by omega))
      have h2 : 2 ^ i ≤ 2 ^ (n - 1) := Nat.pow_le_pow_right (by omega) (by omega)
      exact Nat.div_pos (by omega) (Nat.two_pow_pos i)
    simp only [prim_PutFlags.l0]
    rw [u64 (i : Int) (by omega) (by omega), if_pos (by omega), shr_i64_nat m i (by omega), if_pos (by omega), w64 _ (by omega) (by omega)]; rfl
theorem putflags_any (m n : Nat) (hm : m < 65536) (hn : n ≤ 16) (hlt : m < 2 ^ n) (htop : 0 < n → m.testBit (n - 1) = true) : Ev (fun k => prim_PutFlags.f k m) (strOfNums (flagBytes m n), 0) := by
  refine Ev.congr (f := fun k => prim_PutFlags.j0 k m false) (fun k => ?_) ?_
  · unfold prim_PutFlags.f
    rw [if_neg (by omega), show decide ((m : Int) > 65535) = false from decide_eq_false (by omega)]
  · exact Ev.step (f := fun k => prim_PutFlags.l0 k m ((0 : Nat) : Int)) (fun k => by simp only [prim_PutFlags.j0]; rw [if_neg (by decide)]; rfl) (pf_count m n hm hn hlt htop n 0 (by omega))
theorem putflags_no (v : Int) (h : v < 0 ∨ v > 65535) : Ev (fun k => prim_PutFlags.f k v) (⟨#[]⟩, 1) := by
  refine Ev.congr (f := fun k => prim_PutFlags.j0 k v true) (fun k => ?_) (Ev.step (f := fun _ => some (⟨#[]⟩, 1)) (fun k => by simp only [prim_PutFlags.j0]; rw [if_pos trivial]) (Ev.now _))
  unfold prim_PutFlags.f
  by_cases c : v < 0
  · rw [if_pos c]
  · rw [if_neg c, show decide (v > 65535) = true from decide_eq_true (by omega)]


theorem int_canon (s : ByteArray) (hs : s.size ≤ 140737488351232) (h : (intOf s).2 = 0) : Ev (fun k => prim_PutInteger.f k (intOf s).1) s := by
  unfold intOf at h ⊢
  by_cases hb : bad s = true
  · rw [if_pos hb] at h; cases h
  · rw [if_neg hb] at h ⊢
    by_cases h8 : s.size > 8
    · rw [if_pos h8] at h; cases h
    · rw [if_neg h8]
      have hz : s.size ≠ 0 := fun e => hb (by unfold bad; simp [e])
      have hlen : (bytesOf s).length = s.size := bytesOf_length s
      obtain ⟨j, hj⟩ : ∃ j, s.size = j + 1 := ⟨s.size - 1, by omega⟩
      have hr := bt_range s 0
      have hcons : bytesOf s = bt s 0 :: (bytesOf s).drop 1 := drop_bt s 0 (by omega)
      have hd1 : ((bytesOf s).drop 1).length = j := by rw [List.length_drop, hlen]; omega
      have hbe : ∀ b ∈ (bytesOf s).drop 1, 0 ≤ b ∧ b < 256 := fun b hbm => byte_of s b (List.mem_of_mem_drop hbm)
      have hv : be (sgn s) (bytesOf s) = be (sgn s * 256 + bt s 0) ((bytesOf s).drop 1) := by rw [hcons, be_cons]; rfl
      have htop : be (sgn s) (bytesOf s) / 256 ^ j = sgn s * 256 + bt s 0 := by rw [hv, ← hd1]; exact be_div _ _ hbe
      have hf : fits (j + 1) (be (sgn s) (bytesOf s)) := by
        rw [fits_succ, htop]
        unfold sgn
        split <;> omega
      have hnf : ∀ m, 1 ≤ m → m < j + 1 → ¬ fits m (be (sgn s) (bytesOf s)) := by
        intro m h1 hm hfm
        have hup : ∀ e, fits (m + e) (be (sgn s) (bytesOf s)) := by
          intro e
          induction e with
          | zero => exact hfm
          | succ e ih =>
            obtain ⟨i, hi⟩ : ∃ i, m + e = i + 1 := ⟨m + e - 1, by omega⟩
            rw [show m + (e + 1) = i + 2 by omega]
            exact fits_up i _ (hi ▸ ih)
        obtain ⟨i, rfl⟩ : ∃ i, j = i + 1 := ⟨j - 1, by omega⟩
        have hfi := hup (i + 1 - m)
        rw [show m + (i + 1 - m) = i + 1 by omega, fits_succ] at hfi
        have h1r := bt_range s 1
        have hcons2 : (bytesOf s).drop 1 = bt s 1 :: (bytesOf s).drop 2 := drop_bt s 1 (by omega)
        have hd2 : ((bytesOf s).drop 2).length = i := by rw [List.length_drop, hlen]; omega
        have htop2 : be (sgn s) (bytesOf s) / 256 ^ i = (sgn s * 256 + bt s 0) * 256 + bt s 1 := by
          rw [hv, hcons2, be_cons, ← hd2]; exact be_div _ _ (fun b hbm => byte_of s b (List.mem_of_mem_drop hbm))
        rw [htop2] at hfi
        apply hb
        unfold bad
        unfold sgn at hfi
        simp only [Bool.or_eq_true, Bool.and_eq_true, decide_eq_true_eq]
        split at hfi <;> omega
      have hrng : -9223372036854775808 ≤ be (sgn s) (bytesOf s) ∧ be (sgn s) (bytesOf s) ≤ 9223372036854775807 := by
        have h8' : ∀ e, fits (j + 1 + e) (be (sgn s) (bytesOf s)) := by
          intro e
          induction e with
          | zero => exact hf
          | succ e ih => exact (show j + 1 + (e + 1) = j + e + 2 by omega) ▸ fits_up (j + e) _ (by rw [show j + e + 1 = j + 1 + e by omega]; exact ih)
        have := h8' (7 - j)
        rw [show j + 1 + (7 - j) = 7 + 1 by omega, fits_succ, show (256 : Int) ^ 7 = 72057594037927936 by decide] at this
        omega
      have he : enc (j + 1) (be (sgn s) (bytesOf s)) = bytesOf s := by
        have := enc_be (sgn s) (bytesOf s) (byte_of s)
        rw [hlen, hj] at this; exact this
      have := put_any _ (j + 1) (by omega) (by omega) hf hnf
      rw [he, strOf_bytes] at this
      rw [w64 _ hrng.1 hrng.2]
      exact this

theorem head_tail (s : ByteArray) (hz : s.size ≠ 0) (u : Nat) (h0 : bt s 0 = (u : Int)) : strOfNums [(u : Int) % 256] ++ s.extract 1 s.size = s := by
  have hr := bt_range s 0
  have e1 : bytesOf s = bt s 0 :: (bytesOf s).drop 1 := drop_bt s 0 (by omega)
  have e : strOfNums [(u : Int) % 256] ++ s.extract 1 s.size = strOfNums (bytesOf s) := by
    have e2 : s.extract 1 s.size = strOfNums ((bytesOf s).drop 1) := by rw [← bytesOf_tail, strOf_bytes]
    rw [e1, e2, h0, show (u : Int) % 256 = u by omega]
    unfold strOfNums
    apply ByteArray.ext
    simp
  rw [e, strOf_bytes]

theorem bits_canon (s : ByteArray) (hs : s.size ≤ 140737488351232) (h : (bitsOf s).2.2 = 0) : Ev (fun k => prim_PutBits.f k (bitsOf s).1 (bitsOf s).2.1) (s, 0) := by
  rcases bits_cases s with e | ⟨u, N, hz, h0, hu, hsp, hN, e⟩
  · rw [e] at h; cases h
  · rw [e]
    have hts := tail_size s hz
    have := putbits_any (s.extract 1 s.size) u (by omega)
    unfold putBitsOf at this
    rw [if_neg (by omega), if_pos hsp, head_tail s hz u h0] at this
    exact this

theorem flags_canon (s : ByteArray) (hs : s.size ≤ 140737488351232) (u N : Nat) (hz : s.size ≠ 0) (h0 : bt s 0 = (u : Int)) (hu : u ≤ 7) (hsp : spareOK (s.extract 1 s.size) u = true) (hN : 8 * (s.extract 1 s.size).size = N + u)
    (h : (flagsOf (s.extract 1 s.size) N).2 = 0) : Ev (fun k => prim_PutFlags.f k (flagsOf (s.extract 1 s.size) N).1) (s, 0) := by
  have hts := tail_size s hz
  have htl : bytesOf (s.extract 1 s.size) = (bytesOf s).drop 1 := bytesOf_tail s
  have hcons : bytesOf s = bt s 0 :: (bytesOf s).drop 1 := drop_bt s 0 (by omega)
  generalize hb : s.extract 1 s.size = b at *
  unfold flagsOf at h ⊢
  by_cases c : 0 < N ∧ bitAt b (N - 1) = false
  · rw [if_pos c] at h; cases h
  · rw [if_neg c] at h ⊢
    by_cases g : N > 16
    · rw [if_pos g] at h; cases h
    · rw [if_neg g]
      have hlt := um_lt (bitAt b) N
      have hp : 2 ^ N ≤ 2 ^ 16 := Nat.pow_le_pow_right (by omega) (by omega)
      have htop : 0 < N → (um (bitAt b) N).testBit (N - 1) = true := by
        intro hpos
        rw [um_tb]
        have : bitAt b (N - 1) = true := by
          cases e : bitAt b (N - 1) with
          | true => rfl
          | false => exact absurd ⟨hpos, e⟩ c
        rw [this]; simp; omega
      have hpf := putflags_any (um (bitAt b) N) N (by omega) (by omega) hlt htop
      have hL : (N + 7) / 8 = b.size := by
        by_cases hbz : b.size = 0
        · omega
        · omega
      have hfb : flagBytes (um (bitAt b) N) N = bytesOf s := by
        unfold flagBytes
        rw [hcons, h0, hL, show 8 * b.size - N = u by omega, ← htl]
        congr 1
        apply List.ext_getElem
        · rw [body_length, bytesOf_length]
        · intro j h1 h2
          rw [body_length] at h1
          rw [body_get _ _ _ _ h1]
          have hbj : (bytesOf b)[j] = bt b (j : Int) := by
            rw [← rd_bytesOf]; unfold rd; rw [Int.toNat_natCast, List.getD_eq_getElem?_getD, List.getElem?_eq_getElem h2, Option.getD_some]
          rw [hbj]
          obtain ⟨x, hx, ex⟩ := bt_nat b (j : Int)
          rw [ex]
          congr 1
          apply Nat.eq_of_testBit_eq
          intro t
          rw [pk8, um_tb]
          by_cases ht : t ≤ 7
          · by_cases hin : 8 * j + (7 - t) < N
            · have : bitAt b (8 * j + (7 - t)) = x.testBit t := by
                unfold bitAt
                rw [show (8 * j + (7 - t)) / 8 = j by omega, ex, Int.toNat_natCast, show 7 - (8 * j + (7 - t)) % 8 = t by omega]
              rw [this]; simp [ht, hin]
            · have hlast : j = b.size - 1 := by omega
              have htu : t < u := by omega
              have hx0 : x.testBit t = false := by
                unfold spareOK at hsp
                simp only [Bool.or_eq_true, Bool.and_eq_true, decide_eq_true_eq] at hsp
                rcases hsp with hsp | hsp
                · omega
                · have e2 : (b.size : Int) - 1 = (j : Int) := by omega
                  have := hsp.2
                  rw [e2, ex, Int.toNat_natCast, ← pow_nat, ← Int.natCast_emod] at this
                  have h3 : x % 2 ^ u = 0 := by exact_mod_cast this
                  exact (mod_tb x u).1 h3 t htu
              rw [hx0]; simp [hin]
          · have : x.testBit t = false := Nat.testBit_lt_two_pow (Nat.lt_of_lt_of_le hx (show 2 ^ 8 ≤ 2 ^ t from Nat.pow_le_pow_right (by omega) (by omega)))
            rw [this]; simp [ht]
      rw [hfb, strOf_bytes] at hpf
      exact hpf

theorem PrimCanonical : certpathlaw03_PrimCanonical.Pure := by
  intro c hc
  apply Ev.rounds
  unfold certpathlaw03_PrimCanonical.f
  by_cases h : (c.size : Int) > 60
  · refine Ev.congr (fun k => by rw [if_pos h]) ?_
    exact Ev.bind awake_true (Ev.now _)
  · refine Ev.congr (f := fun k => certpathlaw03_PrimCanonical.j0 k c false) (fun k => ?_) ?_
    · rw [if_neg h]
      unfold prim_Boolean.f
      by_cases e : c.toList = [0]
      · rw [if_pos e]; simp [prim_PutBoolean.f, e, Lib.toList_data]
      · rw [if_neg e]
        by_cases e2 : c.toList = [255]
        · rw [if_pos e2]; simp [prim_PutBoolean.f, e2, Lib.toList_data]
        · rw [if_neg e2]; rfl
    · refine Ev.step (f := fun k => (prim_Integer.f k c).bind fun bt128 => if bt128.2 = 0 then ((prim_PutInteger.f k bt128.1).bind fun t130 => certpathlaw03_PrimCanonical.j1 k c (t130.toList != c.toList)) else certpathlaw03_PrimCanonical.j1 k c false) (fun k => by simp only [certpathlaw03_PrimCanonical.j0]; rw [if_neg (by decide)]) ?_
      refine Ev.bind (int_any c hc) ?_
      have hj2 : Ev (fun k => certpathlaw03_PrimCanonical.j2 k c) true := by
        refine Ev.step (fun k => by simp only [certpathlaw03_PrimCanonical.j2]; rfl) ?_
        refine Ev.bind (flags_any c hc) ?_
        rcases bits_cases c with e | ⟨u, N, hz, h0, hu, hsp, hN, e⟩
        · rw [e]
          refine Ev.congr (f := fun k => (certpathlaw03_awake.f k).bind fun t141 => some t141) (fun k => ?_) (Ev.bind awake_true (Ev.now _))
          rw [if_neg (by decide)]
        · rw [e]
          simp only [if_true, Int.toNat_natCast]
          rw [show 8 * (c.extract 1 c.size).size - u = N by omega]
          by_cases hz2 : (flagsOf (c.extract 1 c.size) N).2 = 0
          · refine Ev.congr (fun k => by rw [if_pos hz2]) ?_
            refine Ev.bind (flags_canon c hc u N hz h0 hu hsp hN hz2) ?_
            simp only [if_true]
            exact Ev.bind awake_true (Ev.now _)
          · refine Ev.congr (fun k => by rw [if_neg hz2]) ?_
            exact Ev.bind awake_true (Ev.now _)
      have hj1 : Ev (fun k => certpathlaw03_PrimCanonical.j1 k c false) true := by
        by_cases hz : (bitsOf c).2.2 = 0
        · refine Ev.step (f := fun k => (prim_PutBits.f k (bitsOf c).1 (bitsOf c).2.1).bind fun bt134 => if bt134.2 = 0 then (if bt134.1.toList = c.toList then certpathlaw03_PrimCanonical.j2 k c else some false) else some false) (fun k => by simp only [certpathlaw03_PrimCanonical.j1]; rw [if_neg (by decide), bits_any c hc, Option.bind_some, if_pos hz]) ?_
          refine Ev.bind (bits_canon c hc hz) ?_
          simp only [if_true]
          exact hj2
        · exact Ev.step (f := fun k => certpathlaw03_PrimCanonical.j2 k c) (fun k => by simp only [certpathlaw03_PrimCanonical.j1]; rw [if_neg (by decide), bits_any c hc, Option.bind_some, if_neg hz]) hj2
      by_cases hi : (intOf c).2 = 0
      · refine Ev.congr (fun k => by rw [if_pos hi]) ?_
        refine Ev.bind (int_canon c hc hi) ?_
        simp only [bne_self_eq_false]
        exact hj1
      · exact Ev.congr (fun k => by rw [if_neg hi]) hj1

end Go.Proofs.Ytpiakeejfggocaa.Pure
