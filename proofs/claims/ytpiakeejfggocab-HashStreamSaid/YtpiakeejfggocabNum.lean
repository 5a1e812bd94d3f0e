/- Arithmetic of whole numbers of fixed width, big-endian digits and bits: plain mathematics, no program in sight. -/
import Derived.Test.YtpiakeejfggocabWMore
import Derived.Laws.BitsLemmas
import Derived.Laws.BytesArg
import Derived.Lib.Strings
set_option linter.unusedVariables false
set_option linter.unusedSimpArgs false
namespace Go.Proofs.Ytpiakeejfggocab.Num
open Go Go.RowKit Go.Proofs.YtpiakeejfggocabW.PrintWords Go.Proofs.YtpiakeejfggocabW.PrintLast

theorem cast_lt (a b : Nat) (c : Int) (hc : c = (b : Int)) (h : a < b) : (a : Int) < c := by omega
theorem w64 (n : Int) (h0 : -9223372036854775808 ≤ n) (h1 : n ≤ 9223372036854775807) : wrap64 n = n := by
  unfold wrap64; omega
theorem u64w (n : Int) : IntKind.u64.wrap n = n % 18446744073709551616 := by
  simp [IntKind.wrap, IntKind.bits, IntKind.signed]
theorem u64 (n : Int) (h0 : 0 ≤ n) (h1 : n ≤ 18446744073709551615) : IntKind.u64.wrap n = n := by
  rw [u64w]; omega
theorem i8w (n : Int) : IntKind.i8.wrap n = (n + 128) % 256 - 128 := by
  simp [IntKind.wrap, IntKind.bits, IntKind.signed]; split <;> omega
theorem i64w (n : Int) : IntKind.i64.wrap n = wrap64 n := by
  rw [IntKind.wrap_i64]; unfold wrap64; rfl
theorem wrap64_mod (n : Int) : wrap64 n % 18446744073709551616 = n % 18446744073709551616 := by unfold wrap64; omega
theorem wrap64_range (n : Int) : -9223372036854775808 ≤ wrap64 n ∧ wrap64 n ≤ 9223372036854775807 := by unfold wrap64; omega
theorem wrap64_congr {a b : Int} (h : a % 18446744073709551616 = b % 18446744073709551616) : wrap64 a = wrap64 b := by unfold wrap64; omega

theorem nat_or_low (m b : Nat) (hm : m % 256 = 0) (hb : b < 256) : m ||| b = m + b := by
  have hq : m = 2 ^ 8 * (m / 256) := by omega
  rw [hq, ← Nat.two_pow_add_eq_or_of_lt (i := 8) (by omega) (m / 256)]

theorem bits_or_i64 (x y : Int) : bits .or .i64 x y = wrap64 (((x % 18446744073709551616).toNat ||| (y % 18446744073709551616).toNat : Nat) : Int) := by
  have e : bits .or .i64 x y = IntKind.i64.wrap ((BitVec.ofInt 64 x ||| BitVec.ofInt 64 y).toNat : Int) := rfl
  rw [e, i64w, BitVec.toNat_or, BitVec.toNat_ofInt, BitVec.toNat_ofInt]; rfl
theorem bits_or_u64 (x y : Int) : bits .or .u64 x y = IntKind.u64.wrap (((x % 18446744073709551616).toNat ||| (y % 18446744073709551616).toNat : Nat) : Int) := by
  have e : bits .or .u64 x y = IntKind.u64.wrap ((BitVec.ofInt 64 x ||| BitVec.ofInt 64 y).toNat : Int) := rfl
  rw [e, BitVec.toNat_or, BitVec.toNat_ofInt, BitVec.toNat_ofInt]; rfl
theorem or_i64 (x b : Int) (h0 : 0 ≤ b) (h1 : b < 256) : bits .or .i64 (wrap64 (x * 256)) b = wrap64 (x * 256 + b) := by
  rw [bits_or_i64, wrap64_mod, nat_or_low _ _ (by omega) (by omega)]
  apply wrap64_congr
  omega
theorem or_u64 (x b : Int) (h0 : 0 ≤ b) (h1 : b < 256) : bits .or .u64 (IntKind.u64.wrap (x * 256)) b = IntKind.u64.wrap (x * 256 + b) := by
  rw [bits_or_u64, u64w (x * 256), nat_or_low _ _ (by omega) (by omega), u64w, u64w]
  omega

/-- The number that digits of base 256 make, behind acc. -/
def be (acc : Int) (l : List Int) : Int := l.foldl (fun v b => v * 256 + b) acc
theorem be_nil (a : Int) : be a [] = a := rfl
theorem be_cons (a b : Int) (l : List Int) : be a (b :: l) = be (a * 256 + b) l := rfl
theorem be_snoc (a b : Int) (l : List Int) : be a (l ++ [b]) = be a l * 256 + b := by simp [be, List.foldl_append]

/-- The last n digits of base 256 of v. -/
def enc : Nat → Int → List Int
  | 0, _ => []
  | n + 1, v => enc n (v / 256) ++ [v % 256]
theorem enc_length : ∀ (n : Nat) (v : Int), (enc n v).length = n
  | 0, _ => rfl
  | n + 1, v => by simp [enc, enc_length n]
theorem enc_byte : ∀ (n : Nat) (v : Int), ∀ b ∈ enc n v, 0 ≤ b ∧ b < 256
  | 0, _, b, h => by simp [enc] at h
  | n + 1, v, b, h => by
    simp only [enc, List.mem_append, List.mem_singleton] at h
    rcases h with h | h
    · exact enc_byte n _ b h
    · omega
theorem div_pow (v : Int) (n : Nat) : v / 256 / 256 ^ n = v / 256 ^ (n + 1) := by
  rw [Int.ediv_ediv_of_nonneg (by omega), Int.pow_succ, Int.mul_comm]
/-- The first digit. -/
theorem enc_cons : ∀ (n : Nat) (v : Int), enc (n + 1) v = (v / 256 ^ n % 256) :: enc n v
  | 0, v => by simp [enc]
  | n + 1, v => by
    rw [enc, enc_cons n (v / 256), div_pow]
    rfl
theorem be_enc : ∀ (n : Nat) (s v : Int), v / 256 ^ n = s → be s (enc n v) = v
  | 0, s, v, h => by simpa [be, enc, eq_comm] using h
  | n + 1, s, v, h => by
    rw [enc, be_snoc, be_enc n s (v / 256) (by rw [div_pow]; exact h)]
    omega
theorem be_div_rev (s : Int) : ∀ r : List Int, (∀ b ∈ r, 0 ≤ b ∧ b < 256) → be s r.reverse / 256 ^ r.length = s
  | [], _ => by simp [be]
  | b :: r, h => by
    have hb := h b (by simp)
    rw [List.reverse_cons, be_snoc, List.length_cons, ← div_pow, show (be s r.reverse * 256 + b) / 256 = be s r.reverse by omega]
    exact be_div_rev s r (fun x hx => h x (by simp [hx]))
theorem be_div (s : Int) (l : List Int) (h : ∀ b ∈ l, 0 ≤ b ∧ b < 256) : be s l / 256 ^ l.length = s := by
  have := be_div_rev s l.reverse (fun b hb => h b (by simpa using hb))
  simpa using this
theorem enc_be_rev (s : Int) : ∀ r : List Int, (∀ b ∈ r, 0 ≤ b ∧ b < 256) → enc r.length (be s r.reverse) = r.reverse
  | [], _ => rfl
  | b :: r, h => by
    have hb := h b (by simp)
    rw [List.reverse_cons, be_snoc, List.length_cons, enc, show (be s r.reverse * 256 + b) / 256 = be s r.reverse by omega, enc_be_rev s r (fun x hx => h x (by simp [hx])),
      show (be s r.reverse * 256 + b) % 256 = b by omega]
theorem enc_be (s : Int) (l : List Int) (h : ∀ b ∈ l, 0 ≤ b ∧ b < 256) : enc l.length (be s l) = l := by
  have := enc_be_rev s l.reverse (fun b hb => h b (by simpa using hb))
  simpa using this

/-- A number lies in n bytes. -/
def fits (n : Nat) (v : Int) : Prop := -128 ≤ v / 256 ^ (n - 1) ∧ v / 256 ^ (n - 1) ≤ 127
instance (n : Nat) (v : Int) : Decidable (fits n v) := by unfold fits; exact inferInstance
theorem div_pow' (v : Int) (n : Nat) : v / 256 ^ n / 256 = v / 256 ^ (n + 1) := by
  rw [Int.ediv_ediv_of_nonneg (Int.le_of_lt (Int.pow_pos (by omega))), Int.pow_succ]
theorem fits_one (v : Int) : fits 1 v ↔ -128 ≤ v ∧ v ≤ 127 := by simp [fits]
theorem fits_succ (j : Nat) (v : Int) : fits (j + 1) v ↔ -128 ≤ v / 256 ^ j ∧ v / 256 ^ j ≤ 127 := by simp [fits]
theorem least (p : Nat → Prop) [DecidablePred p] : ∀ N, 1 ≤ N → p N → ∃ n, 1 ≤ n ∧ n ≤ N ∧ p n ∧ ∀ m, 1 ≤ m → m < n → ¬ p m := by
  intro N
  induction N using Nat.strongRecOn with
  | ind N ih =>
    intro h1 hp
    by_cases h : ∃ m, m < N ∧ 1 ≤ m ∧ p m
    · obtain ⟨m, hm, h1m, hpm⟩ := h
      obtain ⟨n, a, b, c, d⟩ := ih m hm h1m hpm
      exact ⟨n, a, by omega, c, d⟩
    · exact ⟨N, h1, Nat.le_refl _, hp, fun m h1m hm hpm => h ⟨m, hm, h1m, hpm⟩⟩
theorem fits_eight (v : Int) (h0 : -9223372036854775808 ≤ v) (h1 : v ≤ 9223372036854775807) : fits 8 v := by
  have : (256 : Int) ^ (8 - 1) = 72057594037927936 := by decide
  unfold fits; rw [this]; omega
theorem fits_up (j : Nat) (v : Int) (h : fits (j + 1) v) : fits (j + 2) v := by
  rw [fits_succ] at h ⊢
  rw [← div_pow' v j]; omega
/-- The least number of bytes. -/
theorem width (v : Int) (h0 : -9223372036854775808 ≤ v) (h1 : v ≤ 9223372036854775807) : ∃ n, 1 ≤ n ∧ n ≤ 8 ∧ fits n v ∧ ∀ m, 1 ≤ m → m < n → ¬ fits m v :=
  least (fun n => fits n v) 8 (by omega) (fits_eight v h0 h1)
theorem pow_256 (j : Nat) : (2 : Int) ^ (8 * j) = 256 ^ j := by rw [Int.pow_mul]; rfl
theorem shr_i64 (v : Int) (j : Nat) (hj : j ≤ 8) : shr .i64 v ((8 * j : Nat) : Int) = v / 256 ^ j := by
  unfold shr
  rw [Int.toNat_natCast, Nat.min_eq_left (by show 8 * j ≤ 64; omega), pow_256]
theorem shr_u64 (v : Int) (j : Nat) (hj : j ≤ 8) : shr .u64 v ((8 * j : Nat) : Int) = v / 256 ^ j := by
  unfold shr
  rw [Int.toNat_natCast, Nat.min_eq_left (by show 8 * j ≤ 64; omega), pow_256]
theorem u64_byte (v : Int) (j : Nat) (hj : j ≤ 7) : v % 18446744073709551616 / 256 ^ j % 256 = v / 256 ^ j % 256 := by
  have : j = 0 ∨ j = 1 ∨ j = 2 ∨ j = 3 ∨ j = 4 ∨ j = 5 ∨ j = 6 ∨ j = 7 := by omega
  rcases this with rfl | rfl | rfl | rfl | rfl | rfl | rfl | rfl
  · simp only [Int.pow_zero]; omega
  · rw [show (256 : Int) ^ 1 = 256 by decide]; omega
  · rw [show (256 : Int) ^ 2 = 65536 by decide]; omega
  · rw [show (256 : Int) ^ 3 = 16777216 by decide]; omega
  · rw [show (256 : Int) ^ 4 = 4294967296 by decide]; omega
  · rw [show (256 : Int) ^ 5 = 1099511627776 by decide]; omega
  · rw [show (256 : Int) ^ 6 = 281474976710656 by decide]; omega
  · rw [show (256 : Int) ^ 7 = 72057594037927936 by decide]; omega
theorem toList_nil_iff (s : ByteArray) : s.toList = [] ↔ (s.size : Int) = 0 := by
  rw [Lib.toList_data, ← List.length_eq_zero_iff, Array.length_toList]
  show s.size = 0 ↔ _
  omega
theorem byte_of (s : ByteArray) : ∀ b ∈ bytesOf s, 0 ≤ b ∧ b < 256 := by
  intro b hb
  simp only [bytesOf, List.mem_map] at hb
  obtain ⟨c, _, rfl⟩ := hb
  have := c.toNat_lt
  omega
theorem drop_rd (l : List Int) (i : Nat) (h : i < l.length) : l.drop i = rd l i :: l.drop (i + 1) := by
  rw [List.drop_eq_getElem_cons h]
  simp [rd, List.getD_eq_getElem?_getD, h]
theorem drop_bt (s : ByteArray) (i : Nat) (h : i < s.size) : (bytesOf s).drop i = bt s i :: (bytesOf s).drop (i + 1) := by
  rw [drop_rd _ _ (by rw [bytesOf_length]; exact h), rd_bytesOf]
theorem strOf_bytes (s : ByteArray) : strOfNums (bytesOf s) = s := by
  unfold strOfNums bytesOf
  rw [List.map_map]
  have : ((fun n : Int => UInt8.ofNat n.toNat) ∘ fun b : UInt8 => (b.toNat : Int)) = id := by funext b; simp
  rw [this, List.map_id]
theorem bytes_strOf (l : List Int) (h : ∀ b ∈ l, 0 ≤ b ∧ b < 256) : bytesOf (strOfNums l) = l := by
  unfold strOfNums bytesOf
  rw [List.map_map]
  have e : ∀ x ∈ l, ((fun b : UInt8 => (b.toNat : Int)) ∘ fun n : Int => UInt8.ofNat n.toNat) x = x := by
    intro x hx
    have := h x hx
    show ((UInt8.ofNat x.toNat).toNat : Int) = x
    rw [UInt8.toNat_ofNat']
    omega
  rw [List.map_congr_left e, List.map_id']
theorem toList_strOf (l m : List Int) (hl : ∀ b ∈ l, 0 ≤ b ∧ b < 256) (hm : ∀ b ∈ m, 0 ≤ b ∧ b < 256) (h : (strOfNums l).toList = (strOfNums m).toList) : l = m := by
  have e : strOfNums l = strOfNums m := by
    rw [Lib.toList_data, Lib.toList_data] at h
    cases hx : strOfNums l; cases hy : strOfNums m
    rw [hx, hy] at h
    simp only [ByteArray.mk.injEq]
    exact Array.toList_inj.1 h
  rw [← bytes_strOf l hl, ← bytes_strOf m hm, e]
end Go.Proofs.Ytpiakeejfggocab.Num
