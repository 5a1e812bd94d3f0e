/- Bits of whole numbers: plain mathematics, no program in sight. -/
import Derived.Test.YtpiakeejfggocabNum
set_option linter.unusedVariables false
set_option linter.unusedSimpArgs false
namespace Go.Proofs.Ytpiakeejfggocab.Num
open Go Go.RowKit Go.Proofs.YtpiakeejfggocabW.PrintWords Go.Proofs.YtpiakeejfggocabW.PrintLast

theorem u8w (n : Int) : IntKind.u8.wrap n = n % 256 := IntKind.wrap_u8 n
theorem and_u8 (x : Int) (u : Nat) (hu : u ≤ 8) (h0 : 0 ≤ x) (h1 : x < 256) : bits .and .u8 x (2 ^ u - 1) = x % 2 ^ u :=
  bits_mask .u8 8 (by decide) wraps_u8 u hu x h0 h1
theorem and_u8_one (x : Int) (h0 : 0 ≤ x) (h1 : x < 256) : bits .and .u8 x 1 = x % 2 := and_u8 x 1 (by omega) h0 h1
theorem or_u8 (a b : Nat) (ha : a < 256) (hb : b < 256) : bits .or .u8 (a : Int) (b : Int) = ((a ||| b : Nat) : Int) :=
  (bits_nat .u8 8 (by decide) wraps_u8 a b ha hb).2
theorem or_i64_nat (a b : Nat) (ha : a < 65536) (hb : b < 65536) : bits .or .i64 (a : Int) (b : Int) = ((a ||| b : Nat) : Int) := by
  rw [bits_or_i64]
  have e1 : ((a : Int) % 18446744073709551616).toNat = a := by omega
  have e2 : ((b : Int) % 18446744073709551616).toNat = b := by omega
  have := Nat.or_lt_two_pow (n := 16) ha hb
  rw [e1, e2, w64 _ (by omega) (by omega)]
theorem and_i64_one (x : Int) (h0 : 0 ≤ x) (h1 : x < 9223372036854775808) : bits .and .i64 x 1 = x % 2 := by
  have e : bits .and .i64 x 1 = IntKind.i64.wrap ((BitVec.ofInt 64 x &&& BitVec.ofInt 64 1).toNat : Int) := rfl
  rw [e, i64w, BitVec.toNat_and, BitVec.toNat_ofInt, BitVec.toNat_ofInt]
  have e1 : (x % ((2 ^ 64 : Nat) : Int)).toNat = x.toNat := by show (x % 18446744073709551616).toNat = _; omega
  have e2 : ((1 : Int) % ((2 ^ 64 : Nat) : Int)).toNat = 2 ^ 1 - 1 := by decide
  rw [e1, e2, Nat.and_two_pow_sub_one_eq_mod, w64 _ (by omega) (by omega)]
  omega
theorem pow_nat (u : Nat) : ((2 ^ u : Nat) : Int) = (2 : Int) ^ u := by simp
theorem shl_u8 (u : Nat) (hu : u ≤ 7) : shl .u8 1 (u : Int) = ((2 ^ u : Nat) : Int) := by
  have : u = 0 ∨ u = 1 ∨ u = 2 ∨ u = 3 ∨ u = 4 ∨ u = 5 ∨ u = 6 ∨ u = 7 := by omega
  rcases this with rfl | rfl | rfl | rfl | rfl | rfl | rfl | rfl <;> rfl
theorem shr_128 (u : Nat) (hu : u ≤ 7) : shr .u8 128 (u : Int) = ((2 ^ (7 - u) : Nat) : Int) := by
  have : u = 0 ∨ u = 1 ∨ u = 2 ∨ u = 3 ∨ u = 4 ∨ u = 5 ∨ u = 6 ∨ u = 7 := by omega
  rcases this with rfl | rfl | rfl | rfl | rfl | rfl | rfl | rfl <;> rfl
theorem shl_i64 (u : Nat) (hu : u ≤ 16) : shl .i64 1 (u : Int) = ((2 ^ u : Nat) : Int) := by
  have : u = 0 ∨ u = 1 ∨ u = 2 ∨ u = 3 ∨ u = 4 ∨ u = 5 ∨ u = 6 ∨ u = 7 ∨ u = 8 ∨ u = 9 ∨ u = 10 ∨ u = 11 ∨ u = 12 ∨ u = 13 ∨ u = 14 ∨ u = 15 ∨ u = 16 := by omega
  rcases this with rfl | rfl | rfl | rfl | rfl | rfl | rfl | rfl | rfl | rfl | rfl | rfl | rfl | rfl | rfl | rfl | rfl <;> rfl
theorem shr_u8 (x : Nat) (u : Nat) (hu : u ≤ 8) : shr .u8 (x : Int) (u : Int) = ((x / 2 ^ u : Nat) : Int) := by
  unfold shr
  rw [Int.toNat_natCast, Nat.min_eq_left (by show u ≤ 8; omega), ← pow_nat]; simp
theorem shr_i64_nat (x : Nat) (u : Nat) (hu : u ≤ 64) : shr .i64 (x : Int) (u : Int) = ((x / 2 ^ u : Nat) : Int) := by
  unfold shr
  rw [Int.toNat_natCast, Nat.min_eq_left (by show u ≤ 64; omega), ← pow_nat]; simp
theorem tb_div (x u : Nat) : x.testBit u = decide (x / 2 ^ u % 2 = 1) := Nat.testBit_eq_decide_div_mod_eq

/-- Eight bits, the first one the greatest. -/
def pk (p : Nat → Bool) : Nat → Nat
  | 0 => 0
  | i + 1 => if p i = true then pk p i ||| 2 ^ (7 - i) else pk p i
theorem pk_tb (p : Nat → Bool) (t : Nat) : ∀ m, m ≤ 8 → (pk p m).testBit t = (decide (t ≤ 7) && decide (7 - t < m) && p (7 - t))
  | 0, _ => by simp [pk]
  | m + 1, h => by
    have ih := pk_tb p t m (by omega)
    unfold pk
    by_cases ht : t ≤ 7
    · by_cases e : 7 - t = m
      · subst e
        have e2 : 7 - (7 - t) = t := by omega
        by_cases hp : p (7 - t) = true
        · rw [if_pos hp, Nat.testBit_or, ih, Nat.testBit_two_pow, e2]; simp [ht, hp]
        · rw [if_neg hp, ih]; simp [hp]
      · have e3 : ¬ (7 - m = t) := by omega
        have e4 : decide (7 - t < m + 1) = decide (7 - t < m) := by rw [decide_eq_decide]; omega
        by_cases hp : p m = true
        · rw [if_pos hp, Nat.testBit_or, ih, Nat.testBit_two_pow, e4]; simp [e3]
        · rw [if_neg hp, ih, e4]
    · have e3 : ¬ (7 - m = t) := by omega
      by_cases hp : p m = true
      · rw [if_pos hp, Nat.testBit_or, ih, Nat.testBit_two_pow]; simp [ht, e3]
      · rw [if_neg hp, ih]; simp [ht]
theorem pk8 (p : Nat → Bool) (t : Nat) : (pk p 8).testBit t = (decide (t ≤ 7) && p (7 - t)) := by
  rw [pk_tb p t 8 (by omega)]
  have : decide (7 - t < 8) = true := by simp; omega
  rw [this, Bool.and_true]
theorem lt_of_tb (x n : Nat) (h : ∀ t, n ≤ t → x.testBit t = false) : x < 2 ^ n := Nat.lt_pow_two_of_testBit x h
theorem pk_lt (p : Nat → Bool) : pk p 8 < 256 := lt_of_tb _ 8 fun t ht => by rw [pk8]; simp; omega

/-- Bits, the first one the least. -/
def um (q : Nat → Bool) : Nat → Nat
  | 0 => 0
  | k + 1 => if q k = true then um q k ||| 2 ^ k else um q k
theorem um_succ (q : Nat → Bool) (k : Nat) : um q (k + 1) = if q k = true then um q k ||| 2 ^ k else um q k := rfl
theorem um_tb (q : Nat → Bool) (t : Nat) : ∀ n, (um q n).testBit t = (decide (t < n) && q t)
  | 0 => by simp [um]
  | n + 1 => by
    have ih := um_tb q t n
    unfold um
    by_cases e : t = n
    · subst e
      by_cases hp : q t = true
      · rw [if_pos hp, Nat.testBit_or, ih, Nat.testBit_two_pow]; simp [hp]
      · rw [if_neg hp, ih]; simp [hp]
    · have e3 : ¬ (n = t) := fun h => e h.symm
      have e4 : decide (t < n + 1) = decide (t < n) := by rw [decide_eq_decide]; omega
      by_cases hp : q n = true
      · rw [if_pos hp, Nat.testBit_or, ih, Nat.testBit_two_pow, e4]; simp [e3]
      · rw [if_neg hp, ih, e4]
theorem um_lt (q : Nat → Bool) (n : Nat) : um q n < 2 ^ n := lt_of_tb _ n fun t ht => by rw [um_tb]; simp; omega
theorem mod_tb (x c : Nat) : x % 2 ^ c = 0 ↔ ∀ t, t < c → x.testBit t = false := by
  constructor
  · intro h t ht
    have := congrArg (Nat.testBit · t) h
    simp only [Nat.testBit_mod_two_pow, Nat.zero_testBit] at this
    simpa [ht] using this
  · intro h
    apply Nat.eq_of_testBit_eq
    intro t
    rw [Nat.testBit_mod_two_pow, Nat.zero_testBit]
    by_cases ht : t < c
    · simp [h t ht]
    · simp [ht]

/-- How many bits a number has. -/
theorem bitlen (m : Nat) (N : Nat) (h : m < 2 ^ N) : ∃ n, n ≤ N ∧ m < 2 ^ n ∧ (0 < n → m.testBit (n - 1) = true) := by
  induction N with
  | zero => exact ⟨0, by omega, h, by omega⟩
  | succ N ih =>
    by_cases hlt : m < 2 ^ N
    · obtain ⟨n, a, b, c⟩ := ih hlt; exact ⟨n, by omega, b, c⟩
    · refine ⟨N + 1, Nat.le_refl _, h, fun _ => ?_⟩
      rw [Nat.add_sub_cancel, tb_div]
      have hp : 0 < 2 ^ N := Nat.two_pow_pos N
      have : m / 2 ^ N = 1 := by
        have h1 : m / 2 ^ N < 2 := by rw [Nat.div_lt_iff_lt_mul hp]; rw [Nat.pow_succ] at h; omega
        have h2 : 1 ≤ m / 2 ^ N := by rw [Nat.le_div_iff_mul_le hp]; omega
        omega
      rw [this]; rfl

theorem bytesOf_extract (s : ByteArray) (a b : Nat) : bytesOf (s.extract a b) = ((bytesOf s).drop a).take (b - a) := by
  unfold bytesOf
  rw [Lib.extract_data, ← List.map_drop, ← List.map_take]
theorem rd_drop (l : List Int) (a : Nat) (i : Int) (h : 0 ≤ i) : rd (l.drop a) i = rd l (i + a) := by
  unfold rd
  rw [List.getD_eq_getElem?_getD, List.getD_eq_getElem?_getD, List.getElem?_drop]
  congr 2; omega
theorem bytesOf_tail (s : ByteArray) : bytesOf (s.extract 1 s.size) = (bytesOf s).drop 1 := by
  rw [bytesOf_extract, List.take_of_length_le (by rw [List.length_drop, bytesOf_length]; omega)]
theorem bt_tail (s : ByteArray) (i : Int) (h : 0 ≤ i) : bt (s.extract 1 s.size) i = bt s (i + 1) := by
  rw [← rd_bytesOf, ← rd_bytesOf, bytesOf_tail, rd_drop _ _ _ h]; rfl
theorem bt_nat (s : ByteArray) (i : Int) : ∃ x : Nat, x < 256 ∧ bt s i = (x : Int) := by
  have := bt_range s i
  exact ⟨(bt s i).toNat, by omega, by omega⟩
end Go.Proofs.Ytpiakeejfggocab.Num
