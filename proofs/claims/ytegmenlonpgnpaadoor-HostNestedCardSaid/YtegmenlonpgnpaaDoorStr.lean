/- Strings as lists of bytes: splitting at a byte, the first place of a byte, lower case: plain mathematics, no program in sight. -/
import Derived.Test.YtegmenlonpgnpaaDoorNum
import Derived.Lib.SplitLaws
set_option linter.unusedVariables false
set_option linter.unusedSimpArgs false
namespace Go.Proofs.YtegmenlonpgnpaaDoor.Str
open Go Go.RowKit Go.Proofs.YtegmenlonpgnpaaDoorW.PrintWords Go.Proofs.YtegmenlonpgnpaaDoorW.PrintLast Go.Proofs.YtegmenlonpgnpaaDoor.Num

abbrev L (s : ByteArray) : List UInt8 := s.data.toList
def ba (l : List UInt8) : ByteArray := ⟨l.toArray⟩
theorem L_ba (l : List UInt8) : L (ba l) = l := by simp [ba]
theorem ba_L (s : ByteArray) : ba (L s) = s := by unfold ba; exact Lib.mk_data s
theorem size_L (s : ByteArray) : s.size = (L s).length := Lib.size_eq s
theorem size_ba (l : List UInt8) : (ba l).size = l.length := by rw [size_L, L_ba]
theorem ext_L {a b : ByteArray} (h : L a = L b) : a = b := by rw [← ba_L a, ← ba_L b, h]
theorem toList_L (s : ByteArray) : s.toList = L s := Lib.toList_data s
theorem L_append (a b : ByteArray) : L (a ++ b) = L a ++ L b := by simp
theorem L_extract (s : ByteArray) (a b : Nat) : L (s.extract a b) = ((L s).drop a).take (b - a) := Lib.extract_data s a b
theorem L_from (s : ByteArray) (a : Nat) : L (s.extract a s.size) = (L s).drop a := by rw [L_extract, List.take_of_length_le (by rw [List.length_drop, size_L]; omega)]
theorem L_upto (s : ByteArray) (b : Nat) : L (s.extract 0 b) = (L s).take b := by rw [L_extract]; simp
theorem bt_L (s : ByteArray) (i : Int) : bt s i = (((L s).getD i.toNat 0).toNat : Int) := by
  unfold bt
  split
  · rename_i h
    have h' : i.toNat < (L s).length := by rw [← size_L]; exact h
    rw [List.getD_eq_getElem?_getD, List.getElem?_eq_getElem h', Option.getD_some]; rfl
  · rename_i h
    have h' : (L s).length ≤ i.toNat := by rw [← size_L]; omega
    rw [List.getD_eq_getElem?_getD, List.getElem?_eq_none h']; rfl
theorem bt_get (s : ByteArray) (i : Nat) (h : i < (L s).length) : bt s i = (((L s)[i]).toNat : Int) := by
  rw [bt_L, Int.toNat_natCast, List.getD_eq_getElem?_getD, List.getElem?_eq_getElem h, Option.getD_some]
theorem byte_eq (b : UInt8) (n : Nat) (h : n < 256) : (b.toNat : Int) = (n : Int) ↔ b = UInt8.ofNat n := by
  constructor
  · intro e
    have e' : b.toNat = n := by omega
    rw [← e']; exact (UInt8.ofNat_toNat).symm
  · intro e
    rw [e, UInt8.toNat_ofNat']; omega
theorem all_bytes (s : ByteArray) (p : Int → Bool) : (bytesOf s).all p = (L s).all (fun b => p (b.toNat : Int)) := by
  unfold bytesOf; rw [List.all_map]; rfl

/-- Pieces between the bytes c. -/
def spl (c : UInt8) : List UInt8 → List (List UInt8)
  | [] => [[]]
  | x :: xs => if x = c then [] :: spl c xs else (match spl c xs with
    | [] => [[x]]
    | p :: ps => (x :: p) :: ps)
theorem spl_cons (c x : UInt8) (xs : List UInt8) : spl c (x :: xs) = if x = c then [] :: spl c xs else (match spl c xs with
    | [] => [[x]]
    | p :: ps => (x :: p) :: ps) := rfl
theorem spl_ne (c : UInt8) (l : List UInt8) : spl c l ≠ [] := by
  cases l with
  | nil => simp [spl]
  | cons x xs =>
    unfold spl
    split
    · simp
    · split <;> simp
theorem spl_miss (c : UInt8) : ∀ l : List UInt8, c ∉ l → spl c l = [l]
  | [], _ => rfl
  | x :: xs, h => by
    simp only [List.mem_cons, not_or] at h
    rw [spl_cons, if_neg (fun e => h.1 e.symm), spl_miss c xs h.2]
theorem spl_hit (c : UInt8) (b : List UInt8) : ∀ a : List UInt8, c ∉ a → spl c (a ++ c :: b) = a :: spl c b
  | [], _ => by simp [spl]
  | x :: xs, h => by
    simp only [List.mem_cons, not_or] at h
    rw [List.cons_append, spl_cons, if_neg (fun e => h.1 e.symm), spl_hit c b xs h.2]
/-- Around the first byte c. -/
theorem first_of (c : UInt8) : ∀ l : List UInt8, c ∉ l ∨ ∃ a b, l = a ++ c :: b ∧ c ∉ a
  | [] => .inl (by simp)
  | x :: xs => by
    by_cases h : x = c
    · exact .inr ⟨[], xs, by rw [h]; rfl, by simp⟩
    · rcases first_of c xs with h1 | ⟨a, b, h1, h2⟩
      · exact .inl (by simp only [List.mem_cons, not_or]; exact ⟨fun e => h e.symm, h1⟩)
      · exact .inr ⟨x :: a, b, by rw [h1]; rfl, by simp only [List.mem_cons, not_or]; exact ⟨fun e => h e.symm, h2⟩⟩
theorem pre_one (c x : UInt8) (xs : List UInt8) : ([c] : List UInt8).isPrefixOf (x :: xs) = (c == x) := by simp [List.isPrefixOf]
theorem index_miss (c : UInt8) : ∀ l : List UInt8, c ∉ l → Lib.index l [c] = -1
  | [], _ => rfl
  | x :: xs, h => by
    simp only [List.mem_cons, not_or] at h
    unfold Lib.index
    have e : (c == x) = false := beq_eq_false_iff_ne.2 h.1
    rw [pre_one, e, index_miss c xs h.2]; rfl
theorem index_hit (c : UInt8) (b : List UInt8) : ∀ a : List UInt8, c ∉ a → Lib.index (a ++ c :: b) [c] = (a.length : Int)
  | [], _ => by rw [List.nil_append]; unfold Lib.index; rw [pre_one]; simp
  | x :: xs, h => by
    simp only [List.mem_cons, not_or] at h
    rw [List.cons_append]
    unfold Lib.index
    have e : (c == x) = false := beq_eq_false_iff_ne.2 h.1
    rw [pre_one, e, index_hit c b xs h.2]
    have : ((xs.length : Int) == -1) = false := by rw [beq_eq_false_iff_ne]; omega
    simp [this]
theorem splitK_spl (c : UInt8) : ∀ (k : Nat) (l : List UInt8), l.count c = k → Lib.splitK [c] 0 k l = spl c l
  | 0, l, h => by
    have hn : c ∉ l := List.count_eq_zero.1 h
    rw [spl_miss c l hn]; rfl
  | k + 1, l, h => by
    rcases first_of c l with hn | ⟨a, b, rfl, hn⟩
    · rw [List.count_eq_zero.2 hn] at h; omega
    · have hc : b.count c = k := by
        rw [List.count_append, List.count_eq_zero.2 hn, List.count_cons_self] at h; omega
      unfold Lib.splitK
      rw [index_hit c b a hn, spl_hit c b a hn]
      have e : ((a.length : Int) == -1) = false := by rw [beq_eq_false_iff_ne]; omega
      rw [e]
      simp only [Bool.false_eq_true, if_false, Int.toNat_natCast, Nat.add_zero, List.length_cons, List.length_nil]
      rw [List.take_left' rfl, show a ++ c :: b = (a ++ [c]) ++ b by simp, List.drop_left' (by simp), splitK_spl c k b hc]
theorem splitB_spl (c : UInt8) (s : ByteArray) : Lib.splitB ⟨#[c]⟩ 0 (Lib.countB s ⟨#[c]⟩) s = (spl c (L s)).map ba := by
  have h := Lib.splitB_data ⟨#[c]⟩ 0 (Lib.countB s ⟨#[c]⟩) s
  have e : Lib.countB s ⟨#[c]⟩ = (L s).count c := Lib.count_one c (L s)
  have h2 : Lib.splitK [c] 0 ((L s).count c) (L s) = spl c (L s) := splitK_spl c _ _ rfl
  rw [e] at h ⊢
  have h3 : (Lib.splitB ⟨#[c]⟩ 0 ((L s).count c) s).map (fun x => x.data.toList) = spl c (L s) := h.trans h2
  rw [← h3, List.map_map]
  have : (ba ∘ fun x : ByteArray => x.data.toList) = id := by funext x; exact ba_L x
  rw [this, List.map_id]
theorem index_cases (c : UInt8) (l : List UInt8) : (c ∉ l ∧ Lib.index l [c] = -1) ∨ ∃ a b, l = a ++ c :: b ∧ c ∉ a ∧ Lib.index l [c] = (a.length : Int) := by
  rcases first_of c l with h | ⟨a, b, rfl, h⟩
  · exact .inl ⟨h, index_miss c l h⟩
  · exact .inr ⟨a, b, rfl, h, index_hit c b a h⟩
theorem contains_one (c : UInt8) (l : List UInt8) : Lib.contains l [c] = decide (c ∈ l) := by
  unfold Lib.contains
  rcases index_cases c l with ⟨h, e⟩ | ⟨a, b, rfl, h, e⟩
  · rw [e]; simp [h]
  · rw [e]; simp
theorem indexByte_mem (c : UInt8) : ∀ l : List UInt8, decide (0 ≤ Lib.indexByte l c) = decide (c ∈ l)
  | [] => by simp [Lib.indexByte]
  | x :: xs => by
    have ih := indexByte_mem c xs
    have hge := Lib.indexByte_ge xs c
    unfold Lib.indexByte
    by_cases h : x = c
    · subst h; simp
    · have e : (x == c) = false := beq_eq_false_iff_ne.2 h
      rw [e]
      simp only [Bool.false_eq_true, if_false, List.mem_cons]
      have hne : ¬ c = x := fun e => h e.symm
      by_cases hm : c ∈ xs
      · rw [decide_eq_decide] at ih
        have h0 : 0 ≤ Lib.indexByte xs c := ih.2 hm
        have e2 : (Lib.indexByte xs c == -1) = false := by rw [beq_eq_false_iff_ne]; omega
        rw [e2]; simp [hm]; omega
      · rw [decide_eq_decide] at ih
        have h0 : ¬ 0 ≤ Lib.indexByte xs c := fun h => hm (ih.1 h)
        have e2 : (Lib.indexByte xs c == -1) = true := by rw [beq_iff_eq]; omega
        rw [e2]; simp [hm, hne]
/-- Two bytes c stand side by side. -/
def dd (c : UInt8) : List UInt8 → Bool
  | [] => false
  | [_] => false
  | a :: b :: r => (a == c && b == c) || dd c (b :: r)
theorem contains_two (c : UInt8) : ∀ l : List UInt8, Lib.contains l [c, c] = dd c l
  | [] => by simp [Lib.contains, Lib.index, dd]
  | [x] => by simp [Lib.contains, Lib.index, dd, List.isPrefixOf]
  | x :: y :: r => by
    have ih := contains_two c (y :: r)
    unfold Lib.contains at ih ⊢
    have hge := Lib.index_ge (y :: r) [c, c]
    have e : Lib.index (x :: y :: r) [c, c] = if ([c, c] : List UInt8).isPrefixOf (x :: y :: r) then 0 else if Lib.index (y :: r) [c, c] == -1 then -1 else Lib.index (y :: r) [c, c] + 1 := by rw [Lib.index]
    have hp : ([c, c] : List UInt8).isPrefixOf (x :: y :: r) = (x == c && y == c) := by
      simp only [List.isPrefixOf, Bool.and_true]
      rw [Bool.beq_comm (a := c) (b := x), Bool.beq_comm (a := c) (b := y)]
    rw [e, hp]
    unfold dd
    by_cases h : (x == c && y == c) = true
    · rw [if_pos h, h]; simp
    · rw [if_neg h, Bool.eq_false_iff.2 h, Bool.false_or, ← ih]
      by_cases hm : Lib.index (y :: r) [c, c] = -1
      · rw [if_pos (beq_iff_eq.2 hm), hm]
      · rw [if_neg (fun e => hm (beq_iff_eq.1 e)), decide_eq_decide]; omega

/-- Lower case. -/
def lowU (b : UInt8) : UInt8 := if 65 ≤ b.toNat ∧ b.toNat ≤ 90 then UInt8.ofNat (b.toNat + 32) else b
end Go.Proofs.YtegmenlonpgnpaaDoor.Str
