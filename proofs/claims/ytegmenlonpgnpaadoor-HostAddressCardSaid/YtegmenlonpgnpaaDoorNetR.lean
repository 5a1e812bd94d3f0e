/- Networks: addresses, masks, and what lies within what: plain functions of bytes. -/
import Derived.Test.YtegmenlonpgnpaaDoorRx5
import Derived.Test.YtegmenlonpgnpaaDoorRx7
import Derived.Test.YtegmenlonpgnpaaDoorRx6
import Derived.Test.YtegmenlonpgnpaaDoorRx8
import Derived.Test.YtegmenlonpgnpaaDoorRx4
import Derived.Test.YtegmenlonpgnpaaDoorStr
import Derived.Test.YtegmenlonpgnpaaDoorBit
import Derived.KernelRfl
set_option linter.unusedVariables false
set_option linter.unusedSimpArgs false
namespace Go.Proofs.YtegmenlonpgnpaaDoor.Net
open Go Go.RowKit Go.Proofs.YtegmenlonpgnpaaDoor.Q Go.Proofs.YtegmenlonpgnpaaDoorW.PrintWords Go.Proofs.YtegmenlonpgnpaaDoorW.PrintLast Go.Proofs.YtegmenlonpgnpaaDoorW.PrintMore Go.Proofs.YtegmenlonpgnpaaDoor.Num Go.Proofs.YtegmenlonpgnpaaDoor.Str

theorem cast_ev {α : Type} {g : Nat → Option α} {r r2 : α} (h : Ev g r) (e : r = r2) : Ev g r2 := e ▸ h
/-! ### Bits of bytes -/
def by_ (s : ByteArray) (i : Nat) : Nat := ((L s).getD i 0).toNat
theorem bt_by (s : ByteArray) (i : Nat) : bt s (i : Int) = (by_ s i : Int) := by rw [bt_L, Int.toNat_natCast]; rfl
theorem by_lt (s : ByteArray) (i : Nat) : by_ s i < 256 := UInt8.toNat_lt _
theorem and_nat (a b : Nat) (ha : a < 256) (hb : b < 256) : bits .and .u8 (a : Int) (b : Int) = ((a &&& b : Nat) : Int) := (bits_nat .u8 8 (by decide) wraps_u8 a b ha hb).1
theorem shr_bit (x u : Nat) (hu : u ≤ 7) (hx : x < 256) : (bits .and .u8 (shr .u8 (x : Int) (u : Int)) 1 == 1) = decide (x / 2 ^ u % 2 = 1) := by
  have hle : x / 2 ^ u ≤ x := Nat.div_le_self _ _
  have hn := Int.natCast_nonneg (x / 2 ^ u)
  have e : bits .and .u8 (shr .u8 (x : Int) (u : Int)) 1 = ((x / 2 ^ u % 2 : Nat) : Int) := by
    rw [shr_u8 x u (by omega), and_u8_one _ hn (by omega)]; rfl
  rw [e]
  generalize x / 2 ^ u % 2 = q
  by_cases h : q = 1
  · subst h; rfl
  · rw [decide_eq_false h]; exact beq_eq_false_iff_ne.2 (by omega)
theorem bv_clear (x y : BitVec 8) : (x &&& ~~~y) = 0#8 ↔ y &&& x = x := by
  constructor
  · intro h
    ext i hi
    have := congrArg (fun z : BitVec 8 => z[i]) h
    simp at this ⊢
    intro hx
    exact this hx
  · intro h
    ext i hi
    have := congrArg (fun z : BitVec 8 => z[i]) h
    simp at this ⊢
    intro hx
    exact this hx
theorem ofInt_nat (a : Nat) : BitVec.ofInt 8 (a : Int) = BitVec.ofNat 8 a := by
  apply BitVec.eq_of_toNat_eq
  rw [BitVec.toNat_ofInt, BitVec.toNat_ofNat]
  omega
theorem clear_iff (a b : Nat) (ha : a < 256) (hb : b < 256) : bits .andNot .u8 (a : Int) (b : Int) = 0 ↔ b &&& a = a := by
  have e : bits .andNot .u8 (a : Int) (b : Int) = IntKind.u8.wrap ((BitVec.ofInt 8 (a : Int) &&& ~~~ BitVec.ofInt 8 (b : Int)).toNat : Int) := rfl
  rw [e, u8w, ofInt_nat, ofInt_nat]
  have h1 := (BitVec.ofNat 8 a &&& ~~~ BitVec.ofNat 8 b).isLt
  have h2 : (((BitVec.ofNat 8 a &&& ~~~ BitVec.ofNat 8 b).toNat : Int) % 256 = 0) ↔ (BitVec.ofNat 8 a &&& ~~~ BitVec.ofNat 8 b) = 0#8 := by
    constructor
    · intro h
      apply BitVec.eq_of_toNat_eq
      show _ = 0
      omega
    · intro h
      rw [h]; rfl
  rw [h2, bv_clear]
  constructor
  · intro h
    have := congrArg BitVec.toNat h
    rw [BitVec.toNat_and, BitVec.toNat_ofNat, BitVec.toNat_ofNat, Nat.mod_eq_of_lt (show a < 2 ^ 8 from ha), Nat.mod_eq_of_lt (show b < 2 ^ 8 from hb)] at this
    exact this
  · intro h
    apply BitVec.eq_of_toNat_eq
    rw [BitVec.toNat_and, BitVec.toNat_ofNat, BitVec.toNat_ofNat, Nat.mod_eq_of_lt (show a < 2 ^ 8 from ha), Nat.mod_eq_of_lt (show b < 2 ^ 8 from hb)]
    exact h
def tb (s : ByteArray) (h i : Nat) : Bool := decide (by_ s (h + i / 8) / 2 ^ (7 - i % 8) % 2 = 1)

/-! ### Ranges -/
def rg (ab mb : Nat → Bool) : Nat → Nat → Bool → Bool
  | 0, _, _ => true
  | d + 1, i, over => if mb i = true then (if over = true then false else rg ab mb d (i + 1) false) else if ab i = true then false else rg ab mb d (i + 1) true
theorem rg_congr (ab ab' mb mb' : Nat → Bool) (n : Nat) (ha : ∀ j, j < n → ab j = ab' j) (hm : ∀ j, j < n → mb j = mb' j) : ∀ (d i : Nat) (over : Bool), i + d = n → rg ab mb d i over = rg ab' mb' d i over
  | 0, _, _, _ => rfl
  | d + 1, i, over, h => by
    simp only [rg]
    rw [ha i (by omega), hm i (by omega), rg_congr ab ab' mb mb' n ha hm d (i + 1) false (by omega), rg_congr ab ab' mb mb' n ha hm d (i + 1) true (by omega)]
theorem rg_net (ab mb : Nat → Bool) (n : Nat) (hm : ∀ i, mb i = decide (i < n)) (ha : ∀ i, ab i = true → i < n) : ∀ (d i : Nat) (over : Bool), (over = true → n ≤ i) → rg ab mb d i over = true
  | 0, _, _, _ => rfl
  | d + 1, i, over, h => by
    simp only [rg]
    by_cases hi : i < n
    · rw [hm, if_pos (decide_eq_true hi)]
      cases over with
      | true => have := h rfl; omega
      | false =>
        rw [if_neg (by decide)]
        exact rg_net ab mb n hm ha d (i + 1) false (fun h => by cases h)
    · rw [hm, if_neg (by simp [hi])]
      rw [if_neg (fun hh => hi (ha i hh))]
      exact rg_net ab mb n hm ha d (i + 1) true (fun _ => by omega)
theorem bit_f (s : ByteArray) (i : Nat) (hi : i < 8 * s.size) (hs : s.size ≤ 1000) : host_bit.f s (i : Int) = some (tb s 0 i) := by
  unfold host_bit.f
  have e1 : Int.tdiv (i : Int) 8 = ((i / 8 : Nat) : Int) := by rw [Int.tdiv_eq_ediv_of_nonneg (by omega)]; rfl
  have e2 : Int.tmod (i : Int) 8 = ((i % 8 : Nat) : Int) := by rw [Int.tmod_eq_emod_of_nonneg (by omega)]; rfl
  rw [e1, e2, w64 _ (by omega) (by omega), u64 ((i % 8 : Nat) : Int) (by omega) (by omega), u64 _ (by omega) (by omega), if_pos (by omega), if_pos (by omega), if_pos (by omega), bt_by]
  have e3 : (7 - ((i % 8 : Nat) : Int)) = ((7 - i % 8 : Nat) : Int) := by omega
  rw [e3, shr_bit _ _ (by omega) (by_lt _ _)]
  unfold tb
  rw [Nat.zero_add]
theorem range_loop (a m : ByteArray) (hs : a.size = m.size) (hm : m.size ≤ 1000) : ∀ (d i : Nat) (over : Bool), i + d = 8 * m.size → Ev (fun k => host_Range.l0 k a m over i) (rg (tb a 0) (tb m 0) d i over)
  | 0, i, over, hi => by
    refine Ev.step (f := fun _ => some true) (fun k => ?_) (Ev.now _)
    simp only [host_Range.l0]
    rw [w64 _ (by omega) (by omega), if_neg (by omega)]
  | d + 1, i, over, hi => by
    refine Ev.step (fun k => by
      simp only [host_Range.l0]
      rw [w64 (8 * (m.size : Int)) (by omega) (by omega), if_pos (by omega), bit_f m i (by omega) hm, Option.bind_some, bit_f a i (by omega) (by omega), Option.bind_some, w64 _ (by omega) (by omega)]) ?_
    simp only [rg]
    have r1 := range_loop a m hs hm d (i + 1) false (by omega)
    have r2 := range_loop a m hs hm d (i + 1) true (by omega)
    cases tb m 0 i with
    | true =>
      cases over with
      | true => exact Ev.congr (f := fun _ => some false) (fun k => by rfl) (Ev.now _)
      | false => exact r1
    | false =>
      cases tb a 0 i with
      | true => exact Ev.congr (f := fun _ => some false) (fun k => by rfl) (Ev.now _)
      | false =>
        cases over with
        | true => exact r2
        | false => exact r2
theorem halves_f (s : ByteArray) (h : Nat) (hs : s.size = 2 * h) (hh : h ≤ 1000) : host_halves.f s = some (s.extract 0 h, s.extract h s.size) := by
  unfold host_halves.f
  have e : wrap64 ((s.size : Int) / 2) = (h : Int) := by rw [w64 _ (by omega) (by omega)]; omega
  rw [e, if_pos (by omega), if_pos (by omega), Int.toNat_natCast]
theorem by_first (s : ByteArray) (h i : Nat) (hs : s.size = 2 * h) (hi : i < h) : by_ (s.extract 0 h) i = by_ s i := by
  unfold by_
  rw [L_upto, List.getD_eq_getElem?_getD, List.getD_eq_getElem?_getD, List.getElem?_take_of_lt hi]
theorem by_second (s : ByteArray) (h i : Nat) : by_ (s.extract h s.size) i = by_ s (h + i) := by
  unfold by_
  rw [L_from, List.getD_eq_getElem?_getD, List.getD_eq_getElem?_getD, List.getElem?_drop]
theorem size_first (s : ByteArray) (h : Nat) (hs : s.size = 2 * h) : (s.extract 0 h).size = h := by rw [size_L, L_upto, List.length_take, ← size_L]; omega
theorem size_second (s : ByteArray) (h : Nat) (hs : s.size = 2 * h) : (s.extract h s.size).size = h := by rw [size_L, L_from, List.length_drop, ← size_L]; omega
def rangeS (s : ByteArray) : Bool := decide (s.size = 8 ∨ s.size = 32) && rg (tb s 0) (tb s (s.size / 2)) (8 * (s.size / 2)) 0 false
theorem range_p (s : ByteArray) : Ev (fun k => host_Range.f k s) (rangeS s) := by
  have bad : Ev (fun k => host_Range.j0 k s true) false := Ev.step (f := fun _ => some false) (fun k => by simp only [host_Range.j0]; rw [if_pos trivial]) (Ev.now _)
  have good : (s.size = 8 ∨ s.size = 32) → Ev (fun k => host_Range.j0 k s false) (rangeS s) := by
    intro hs
    obtain ⟨h, hh, h1⟩ : ∃ h, s.size = 2 * h ∧ h ≤ 16 := by
      rcases hs with hs | hs
      · exact ⟨4, hs, by decide⟩
      · exact ⟨16, hs, by decide⟩
    refine Ev.step (fun k => by simp only [host_Range.j0]; rw [if_neg (by decide), halves_f s h hh (by omega), Option.bind_some]) ?_
    have sf := size_first s h hh
    have ss := size_second s h hh
    refine cast_ev (range_loop (s.extract 0 h) (s.extract h s.size) (by rw [sf, ss]) (by omega) (8 * (s.extract h s.size).size) 0 false (by omega)) ?_
    unfold rangeS
    have e2 : s.size / 2 = h := by omega
    rw [decide_eq_true hs, Bool.true_and, e2, ss]
    refine rg_congr _ _ _ _ (8 * h) ?_ ?_ _ _ _ (by omega)
    · intro j hj
      unfold tb
      rw [Nat.zero_add, by_first s h (j / 8) hh (by omega)]
    · intro j hj
      unfold tb
      rw [Nat.zero_add, by_second s h (j / 8)]
  unfold host_Range.f
  by_cases h8 : s.size = 8
  · exact Ev.congr (fun k => by rw [if_pos (by omega)]) (good (.inl h8))
  · refine Ev.congr (fun k => by rw [if_neg (by omega)]) ?_
    by_cases h32 : s.size = 32
    · rw [show ((s.size : Int) != 32) = false from bne_eq_false_iff_eq.2 (by omega)]; exact good (.inr h32)
    · rw [show ((s.size : Int) != 32) = true from bne_iff_ne.2 (by omega)]
      refine cast_ev bad ?_
      unfold rangeS
      rw [decide_eq_false (by omega), Bool.false_and]
theorem rbit (s : ByteArray) (j u : Nat) (hu : u ≤ 7) : Int.tmod (shr .u8 (bt s (j : Int)) (u : Int)) 2 = ((by_ s j / 2 ^ u % 2 : Nat) : Int) := by
  rw [bt_by, shr_u8 _ u (by omega), Int.tmod_eq_emod_of_nonneg (Int.natCast_nonneg _)]; rfl
theorem rrange_loop (s : ByteArray) (h : Nat) (hs : s.size = 2 * h) (hh : h ≤ 1000) : ∀ (d i : Nat) (over : Bool), i + d = 8 * h → Ev (fun k => certpathref07_Range.l0 k s h over i) (rg (tb s 0) (tb s h) d i over)
  | 0, i, over, hi => by
    refine Ev.step (f := fun _ => some true) (fun k => ?_) (Ev.now _)
    simp only [certpathref07_Range.l0]
    rw [w64 _ (by omega) (by omega), if_neg (by omega)]
  | d + 1, i, over, hi => by
    have r1 := rrange_loop s h hs hh d (i + 1) false (by omega)
    have r2 := rrange_loop s h hs hh d (i + 1) true (by omega)
    have e3 : wrap64 ((h : Int) + ((i / 8 : Nat) : Int)) = ((h + i / 8 : Nat) : Int) := by rw [w64 _ (by omega) (by omega)]; omega
    have e4 : wrap64 (7 - ((i % 8 : Nat) : Int)) = ((7 - i % 8 : Nat) : Int) := by rw [w64 _ (by omega) (by omega)]; omega
    have e5 : wrap64 ((i / 8 : Nat) : Int) = ((i / 8 : Nat) : Int) := w64 _ (by omega) (by omega)
    have e6 : wrap64 ((i : Int) + 1) = ((i + 1 : Nat) : Int) := by rw [w64 _ (by omega) (by omega)]; rfl
    have e7 : wrap64 (8 * (h : Int)) = 8 * (h : Int) := w64 _ (by omega) (by omega)
    have f1 : (i : Int) < 8 * (h : Int) := by omega
    have f2 : (0 : Int) ≤ ((h + i / 8 : Nat) : Int) := by omega
    have f3 : ((h + i / 8 : Nat) : Int) < (s.size : Int) := by omega
    have f4 : (0 : Int) ≤ ((7 - i % 8 : Nat) : Int) := by omega
    have f5 : 7 - i % 8 ≤ 7 := by omega
    have c1 : (0 : Int) ≤ ((i / 8 : Nat) : Int) := by omega
    have c2 : ((i / 8 : Nat) : Int) < (s.size : Int) := by omega
    have e1 : Int.tdiv (i : Int) 8 = ((i / 8 : Nat) : Int) := by rw [Int.tdiv_eq_ediv_of_nonneg (Int.natCast_nonneg i)]; rfl
    have e2 : Int.tmod (i : Int) 8 = ((i % 8 : Nat) : Int) := by rw [Int.tmod_eq_emod_of_nonneg (Int.natCast_nonneg i)]; rfl
    have hm := rbit s (h + i / 8) (7 - i % 8) f5
    have ha := rbit s (i / 8) (7 - i % 8) f5
    refine Ev.step (fun k => by
      simp only [certpathref07_Range.l0]
      rw [e7, if_pos f1, e1, e2, e5, e3, e4, hm, ha, if_pos f2, if_pos f3, if_pos f4, e6]) ?_
    clear hm ha e1 e2 e3 e4 e5 e6 e7
    simp only [rg]
    have tm : tb s h i = decide (by_ s (h + i / 8) / 2 ^ (7 - i % 8) % 2 = 1) := rfl
    have ta : tb s 0 i = decide (by_ s (i / 8) / 2 ^ (7 - i % 8) % 2 = 1) := by unfold tb; rw [Nat.zero_add]
    rw [tm, ta]
    generalize by_ s (h + i / 8) / 2 ^ (7 - i % 8) % 2 = x at *
    generalize by_ s (i / 8) / 2 ^ (7 - i % 8) % 2 = y at *
    have b0 : ((x : Int) == 1) = decide (x = 1) := by
      by_cases hx : x = 1
      · subst hx; rfl
      · rw [decide_eq_false hx]; exact beq_eq_false_iff_ne.2 (by omega)
    rw [b0]
    by_cases hx : x = 1
    · have hx' : (x : Int) = 1 := by omega
      rw [decide_eq_true hx, if_pos rfl]
      refine Ev.congr (fun k => by rw [if_pos hx', if_pos hx']) ?_
      cases over with
      | true => exact Ev.congr (f := fun _ => some false) (fun k => by rw [if_pos rfl]) (Ev.now _)
      | false => exact r1
    · have hx' : ¬ (x : Int) = 1 := by omega
      rw [decide_eq_false hx, if_neg (by decide)]
      refine Ev.congr (fun k => by rw [if_neg hx', if_neg hx', if_pos c1, if_pos c2]) ?_
      by_cases hy : y = 1
      · rw [decide_eq_true hy, if_pos rfl]
        exact Ev.congr (f := fun _ => some false) (fun k => by rw [if_pos (by omega)]) (Ev.now _)
      · rw [decide_eq_false hy, if_neg (by decide)]
        refine Ev.congr (fun k => by rw [if_neg (by omega)]) ?_
        cases over with
        | true => exact r2
        | false => exact r2
theorem range_r (s : ByteArray) : Ev (fun k => certpathref07_Range.f k s) (rangeS s) := by
  have bad : Ev (fun k => certpathref07_Range.j0 k s true) false := Ev.step (f := fun _ => some false) (fun k => by simp only [certpathref07_Range.j0]; rw [if_pos trivial]) (Ev.now _)
  have good : (s.size = 8 ∨ s.size = 32) → Ev (fun k => certpathref07_Range.j0 k s false) (rangeS s) := by
    intro hs
    obtain ⟨h, hh, h1⟩ : ∃ h, s.size = 2 * h ∧ h ≤ 16 := by
      rcases hs with hs | hs
      · exact ⟨4, hs, by decide⟩
      · exact ⟨16, hs, by decide⟩
    have e : wrap64 ((s.size : Int) / 2) = (h : Int) := by rw [w64 _ (by omega) (by omega)]; omega
    refine Ev.step (fun k => by simp only [certpathref07_Range.j0]; rw [if_neg (by decide), e]) ?_
    refine cast_ev (rrange_loop s h hh (by omega) (8 * h) 0 false (by omega)) ?_
    unfold rangeS
    have e2 : s.size / 2 = h := by omega
    rw [decide_eq_true hs, Bool.true_and, e2]
  unfold certpathref07_Range.f
  by_cases h8 : s.size = 8
  · exact Ev.congr (fun k => by rw [if_pos (by omega)]) (good (.inl h8))
  · refine Ev.congr (fun k => by rw [if_neg (by omega)]) ?_
    by_cases h32 : s.size = 32
    · rw [show ((s.size : Int) != 32) = false from bne_eq_false_iff_eq.2 (by omega)]; exact good (.inr h32)
    · rw [show ((s.size : Int) != 32) = true from bne_iff_ne.2 (by omega)]
      refine cast_ev bad ?_
      unfold rangeS
      rw [decide_eq_false (by omega), Bool.false_and]
theorem range_size (s : ByteArray) (h : rangeS s = true) : ∃ n, s.size = 2 * n ∧ (n = 4 ∨ n = 16) := by
  unfold rangeS at h
  rw [Bool.and_eq_true, decide_eq_true_iff] at h
  rcases h.1 with h | h
  · exact ⟨4, h, .inl rfl⟩
  · exact ⟨16, h, .inr rfl⟩

/-! ### What lies within a range -/
def addrS (s : ByteArray) : Bool := decide (s.size = 4 ∨ s.size = 16)
theorem addr_p (s : ByteArray) : host_Address.f s = some (addrS s) := by
  unfold host_Address.f addrS
  by_cases h : s.size = 4
  · rw [if_pos (by omega), decide_eq_true (.inl h)]
  · rw [if_neg (by omega)]
    by_cases h2 : s.size = 16
    · rw [decide_eq_true (.inr h2)]; exact congrArg some (beq_iff_eq.2 (by omega))
    · rw [decide_eq_false (by omega)]; exact congrArg some (beq_eq_false_iff_ne.2 (by omega))
theorem addr_r (s : ByteArray) : certpathref07_Address.f s = some (addrS s) := addr_p s
def okA (a r : ByteArray) (h i : Nat) : Bool := decide (by_ a i &&& by_ r (h + i) = by_ r i)
def okM (a r : ByteArray) (h i : Nat) : Bool := decide (by_ a (h + i) &&& by_ r (h + i) = by_ r (h + i))
def allN (p : Nat → Bool) : Nat → Nat → Bool
  | 0, _ => true
  | d + 1, i => p i && allN p d (i + 1)
theorem allN_iff (p : Nat → Bool) : ∀ d i, allN p d i = true ↔ ∀ j, i ≤ j → j < i + d → p j = true
  | 0, i => by simp only [allN, true_iff]; intro j h1 h2; omega
  | d + 1, i => by
    simp only [allN, Bool.and_eq_true]
    rw [allN_iff p d (i + 1)]
    constructor
    · rintro ⟨h0, h⟩ j h1 h2
      by_cases e : j = i
      · rw [e]; exact h0
      · exact h j (by omega) (by omega)
    · intro h
      exact ⟨h i (by omega) (by omega), fun j h1 h2 => h j (by omega) (by omega)⟩
theorem allN_and (p q : Nat → Bool) : ∀ d i, allN (fun j => p j && q j) d i = (allN p d i && allN q d i)
  | 0, _ => rfl
  | d + 1, i => by
    simp only [allN]
    rw [allN_and p q d (i + 1)]
    cases p i <;> cases q i <;> cases allN p d (i + 1) <;> cases allN q d (i + 1) <;> rfl
def awS (a r : ByteArray) : Bool := rangeS r && (if a.size = r.size ∧ rangeS a = true then allN (okM a r (r.size / 2)) (r.size / 2) 0 && allN (okA a r (r.size / 2)) (r.size / 2) 0
  else decide (a.size = r.size / 2) && allN (okA a r (r.size / 2)) (r.size / 2) 0)
theorem l1_loop (x a r : ByteArray) (h : Nat) (hr : r.size = 2 * h) (hx : x.size = h) (hh : h ≤ 1000) (ha : ∀ i, i < h → by_ x i = by_ a i) : ∀ (d i : Nat), i + d = h → Ev (fun k => host_AddressWithin.l1 k x (r.extract 0 h) (r.extract h r.size) h i) (allN (okA a r h) d i)
  | 0, i, hi => by
    refine Ev.step (f := fun _ => some true) (fun k => ?_) (Ev.now _)
    simp only [host_AddressWithin.l1]
    rw [if_neg (by omega)]
  | d + 1, i, hi => by
    have ih := l1_loop x a r h hr hx hh ha d (i + 1) (by omega)
    have sf := size_first r h hr
    have ss := size_second r h hr
    refine Ev.step (fun k => by
      simp only [host_AddressWithin.l1]
      rw [if_pos (by omega), if_pos (by omega), if_pos (by omega), if_pos (by omega), if_pos (by omega), bt_by, bt_by, bt_by, ha i (by omega), by_first r h i hr (by omega), by_second r h i, and_nat _ _ (by_lt _ _) (by_lt _ _), w64 _ (by omega) (by omega)]) ?_
    simp only [allN, okA]
    by_cases hc : by_ a i &&& by_ r (h + i) = by_ r i
    · rw [decide_eq_true hc, Bool.true_and]
      exact Ev.congr (fun k => by rw [if_pos (by omega)]; rfl) ih
    · rw [decide_eq_false hc, Bool.false_and]
      exact Ev.congr (f := fun _ => some false) (fun k => by rw [if_neg (by omega)]) (Ev.now _)
theorem l0_loop (a r : ByteArray) (h : Nat) (hr : r.size = 2 * h) (ha : a.size = 2 * h) (hh : h ≤ 1000) : ∀ (d i : Nat), i + d = h → Ev (fun k => host_AddressWithin.l0 k (r.extract 0 h) (r.extract h r.size) (a.extract 0 h) (a.extract h a.size) h i) (allN (okM a r h) d i && allN (okA a r h) h 0)
  | 0, i, hi => by
    have sf := size_first a h ha
    have ss := size_second r h hr
    refine Ev.step (fun k => by simp only [host_AddressWithin.l0]; rw [if_neg (by omega)]) ?_
    refine Ev.step (fun k => by simp only [host_AddressWithin.j2]; rw [ss]) ?_
    simp only [allN, Bool.true_and]
    exact l1_loop (a.extract 0 h) a r h hr sf hh (fun i hi => by_first a h i ha hi) h 0 (by omega)
  | d + 1, i, hi => by
    have ih := l0_loop a r h hr ha hh d (i + 1) (by omega)
    have ss := size_second r h hr
    have sa := size_second a h ha
    have hc0 := clear_iff (by_ r (h + i)) (by_ a (h + i)) (by_lt _ _) (by_lt _ _)
    refine Ev.step (fun k => by
      simp only [host_AddressWithin.l0]
      rw [if_pos (by omega), if_pos (by omega), if_pos (by omega), if_pos (by omega), bt_by, bt_by, by_second r h i, by_second a h i, w64 _ (by omega) (by omega)]) ?_
    simp only [allN]
    have hk : okM a r h i = decide (by_ a (h + i) &&& by_ r (h + i) = by_ r (h + i)) := rfl
    rw [hk]
    by_cases hc : by_ a (h + i) &&& by_ r (h + i) = by_ r (h + i)
    · rw [decide_eq_true hc, Bool.true_and]
      exact Ev.congr (fun k => by rw [if_pos (hc0.2 hc)]; rfl) ih
    · rw [decide_eq_false hc, Bool.false_and, Bool.false_and]
      exact Ev.congr (f := fun _ => some false) (fun k => by rw [if_neg (fun e => hc (hc0.1 e))]) (Ev.now _)
theorem aw_p (a r : ByteArray) : Ev (fun k => host_AddressWithin.f k a r) (awS a r) := by
  unfold host_AddressWithin.f
  refine Ev.bind (range_p r) ?_
  cases hR : rangeS r with
  | false =>
    refine cast_ev (Ev.congr (f := fun _ => some false) (fun k => by rw [if_neg (by decide)]) (Ev.now _)) ?_
    unfold awS; rw [hR, Bool.false_and]
  | true =>
    obtain ⟨h, hr, h4⟩ := range_size r hR
    have hh : h ≤ 1000 := by omega
    have sf := size_first r h hr
    have ss := size_second r h hr
    have e2 : r.size / 2 = h := by omega
    refine Ev.congr (fun k => by rw [if_pos rfl, halves_f r h hr hh, Option.bind_some]) ?_
    have small_ : ¬ (a.size = r.size ∧ rangeS a = true) → Ev (fun k => host_AddressWithin.j0 k a (r.extract 0 h) (r.extract h r.size) false) (awS a r) := by
      intro hno
      refine Ev.step (fun k => by simp only [host_AddressWithin.j0]; rw [if_neg (by decide), sf, addr_p]) ?_
      unfold awS
      rw [hR, Bool.true_and, if_neg hno, e2]
      by_cases hs : a.size = h
      · rw [decide_eq_true hs, Bool.true_and]
        have hA : addrS a = true := by unfold addrS; exact decide_eq_true (by omega)
        refine Ev.congr (fun k => by rw [if_pos (by omega), Option.bind_some, hA, if_pos rfl]) ?_
        refine Ev.step (fun k => by simp only [host_AddressWithin.j2]; rw [ss]) ?_
        exact l1_loop a a r h hr hs hh (fun _ _ => rfl) h 0 (by omega)
      · rw [decide_eq_false hs, Bool.false_and]
        exact Ev.congr (f := fun _ => some false) (fun k => by rw [if_neg (by omega)]) (Ev.now _)
    by_cases hs : a.size = r.size
    · refine Ev.congr (fun k => by rw [if_pos (by omega)]) ?_
      refine Ev.bind (range_p a) ?_
      cases hA : rangeS a with
      | false => exact small_ (fun hh => by rw [hA] at hh; exact absurd hh.2 (by decide))
      | true =>
        refine Ev.step (fun k => by simp only [host_AddressWithin.j0]; rw [if_pos trivial, halves_f a h (by omega) hh, Option.bind_some, ss]) ?_
        unfold awS
        rw [hR, Bool.true_and, if_pos ⟨hs, hA⟩, e2]
        exact l0_loop a r h hr (by omega) hh h 0 (by omega)
    · refine Ev.congr (fun k => by rw [if_neg (by omega)]) ?_
      exact small_ (fun hh => hs hh.1)
theorem raw_loop (a r : ByteArray) (h : Nat) (whole : Bool) (hr : r.size = 2 * h) (hh : h ≤ 1000) (ha : if whole = true then a.size = h else a.size = 2 * h) : ∀ (d i : Nat), i + d = h → Ev (fun k => certpathref07_AddressWithin.l0 k a r h whole i) (allN (fun j => okA a r h j && (whole || okM a r h j)) d i)
  | 0, i, hi => by
    refine Ev.step (f := fun _ => some true) (fun k => ?_) (Ev.now _)
    simp only [certpathref07_AddressWithin.l0]
    rw [if_neg (by omega)]
  | d + 1, i, hi => by
    have ih := raw_loop a r h whole hr hh ha d (i + 1) (by omega)
    have has : i < a.size := by
      split at ha <;> omega
    have e3 : wrap64 ((h : Int) + (i : Int)) = ((h + i : Nat) : Int) := by rw [w64 _ (by omega) (by omega)]; omega
    refine Ev.step (fun k => by
      simp only [certpathref07_AddressWithin.l0]
      rw [if_pos (by omega), if_pos (by omega), if_pos (by omega), e3, if_pos (by omega), if_pos (by omega), if_pos (by omega), bt_by, bt_by, bt_by, bt_by, and_nat _ _ (by_lt _ _) (by_lt _ _), and_nat _ _ (by_lt _ _) (by_lt _ _), w64 _ (by omega) (by omega)]) ?_
    simp only [allN]
    have k1 : okA a r h i = decide (by_ a i &&& by_ r (h + i) = by_ r i) := rfl
    have k2 : okM a r h i = decide (by_ a (h + i) &&& by_ r (h + i) = by_ r (h + i)) := rfl
    rw [k1, k2]
    by_cases hc : by_ a i &&& by_ r (h + i) = by_ r i
    · rw [decide_eq_true hc, Bool.true_and]
      refine Ev.congr (fun k => by rw [if_pos (by omega)]) ?_
      cases whole with
      | true => exact ih
      | false =>
        rw [if_neg (by decide)] at ha
        rw [Bool.false_or]
        by_cases hc2 : by_ a (h + i) &&& by_ r (h + i) = by_ r (h + i)
        · rw [decide_eq_true hc2, Bool.true_and]
          refine Ev.congr (fun k => by rw [if_neg (by decide), if_pos (by omega), if_pos (by omega)]; rfl) ih
        · rw [decide_eq_false hc2, Bool.false_and]
          exact Ev.congr (f := fun _ => some false) (fun k => by rw [if_neg (by decide), if_pos (by omega), if_neg (by omega)]) (Ev.now _)
    · rw [decide_eq_false hc, Bool.false_and, Bool.false_and]
      exact Ev.congr (f := fun _ => some false) (fun k => by rw [if_neg (by omega)]) (Ev.now _)
theorem aw_r (a r : ByteArray) : Ev (fun k => certpathref07_AddressWithin.f k a r) (awS a r) := by
  unfold certpathref07_AddressWithin.f
  refine Ev.bind (range_r r) ?_
  cases hR : rangeS r with
  | false =>
    refine cast_ev (Ev.congr (f := fun _ => some false) (fun k => by rw [if_neg (by decide)]) (Ev.now _)) ?_
    unfold awS; rw [hR, Bool.false_and]
  | true =>
    obtain ⟨h, hr, h4⟩ := range_size r hR
    have hh : h ≤ 1000 := by omega
    have e2 : r.size / 2 = h := by omega
    have e : wrap64 ((r.size : Int) / 2) = (h : Int) := by rw [w64 _ (by omega) (by omega)]; omega
    refine Ev.congr (fun k => by rw [if_pos rfl, addr_r, Option.bind_some, e]) ?_
    have bad : ∀ x, Ev (fun k => certpathref07_AddressWithin.j1 k a r h x true) false := fun x => Ev.step (f := fun _ => some false) (fun k => by simp only [certpathref07_AddressWithin.j1]; rw [if_pos trivial]) (Ev.now _)
    by_cases hs : a.size = h
    · have hA : addrS a = true := by unfold addrS; exact decide_eq_true (by omega)
      refine Ev.congr (fun k => by rw [hA, if_pos rfl, show ((a.size : Int) == (h : Int)) = true from beq_iff_eq.2 (by omega)]) ?_
      refine Ev.step (fun k => by simp only [certpathref07_AddressWithin.j0]; rw [if_pos trivial]) ?_
      refine Ev.step (fun k => by simp only [certpathref07_AddressWithin.j1]; rw [if_neg (by decide)]) ?_
      refine cast_ev (raw_loop a r h true hr hh (by rw [if_pos rfl]; exact hs) h 0 (by omega)) ?_
      unfold awS
      rw [hR, Bool.true_and, if_neg (by omega), e2, decide_eq_true hs, Bool.true_and]
      simp only [Bool.true_or, Bool.and_true]
    · have hj : Ev (fun k => certpathref07_AddressWithin.j0 k a r h false) (awS a r) := by
        refine Ev.step (fun k => by simp only [certpathref07_AddressWithin.j0]; rw [if_neg (by decide)]) ?_
        refine Ev.bind (range_r a) ?_
        unfold awS
        rw [hR, Bool.true_and, e2]
        cases hA : rangeS a with
        | false =>
          rw [if_neg (fun hh => absurd hh.2 (by decide)), decide_eq_false hs, Bool.false_and]
          exact Ev.congr (fun k => by rw [if_neg (by decide)]) (bad _)
        | true =>
          refine Ev.congr (fun k => by rw [if_pos rfl]) ?_
          by_cases hz : a.size = r.size
          · rw [if_pos ⟨hz, rfl⟩, show ((a.size : Int) != (r.size : Int)) = false from bne_eq_false_iff_eq.2 (by omega)]
            refine Ev.step (fun k => by simp only [certpathref07_AddressWithin.j1]; rw [if_neg (by decide)]) ?_
            refine cast_ev (raw_loop a r h false hr hh (by rw [if_neg (by decide)]; omega) h 0 (by omega)) ?_
            rw [Bool.and_comm, ← allN_and]
            simp only [Bool.false_or]
          · rw [if_neg (fun hh => hz hh.1), decide_eq_false hs, Bool.false_and, show ((a.size : Int) != (r.size : Int)) = true from bne_iff_ne.2 (by omega)]
            exact bad _
      cases hA : addrS a with
      | true => exact Ev.congr (fun k => by rw [if_pos rfl, show ((a.size : Int) == (h : Int)) = false from beq_eq_false_iff_ne.2 (by omega)]) hj
      | false => exact Ev.congr (fun k => by rw [if_neg (by decide)]) hj
end Go.Proofs.YtegmenlonpgnpaaDoor.Net
