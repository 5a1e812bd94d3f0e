/- The networks that the laws make. -/
import Derived.Test.YtegmenlonpgnpaaDoorNetR
set_option linter.unusedVariables false
set_option linter.unusedSimpArgs false
namespace Go.Proofs.YtegmenlonpgnpaaDoor.Net
open Go Go.RowKit Go.Proofs.YtegmenlonpgnpaaDoor.Q Go.Proofs.YtegmenlonpgnpaaDoorW.PrintWords Go.Proofs.YtegmenlonpgnpaaDoorW.PrintLast Go.Proofs.YtegmenlonpgnpaaDoorW.PrintMore Go.Proofs.YtegmenlonpgnpaaDoor.Num Go.Proofs.YtegmenlonpgnpaaDoor.Str

/-! ### Masks -/
def M (t : Nat) : Nat := 256 - 2 ^ (8 - t)
def mt (n i : Nat) : Nat := min 8 (n - 8 * i)
def mk (n i : Nat) : Nat := M (mt n i)
theorem M_lt (t : Nat) : M t < 256 := by
  have := Nat.two_pow_pos (8 - t)
  unfold M; omega
theorem M_next : ∀ t : Fin 8, M t.val ||| 2 ^ (7 - t.val) = M (t.val + 1) := by decide
theorem M_bit : ∀ t : Fin 9, ∀ r : Fin 8, (M t.val / 2 ^ (7 - r.val) % 2 = 1) ↔ r.val < t.val := by decide
theorem M_and : ∀ t : Fin 9, ∀ u : Fin 9, M t.val &&& M u.val = M (min t.val u.val) := by decide
theorem mk_lt (n i : Nat) : mk n i < 256 := M_lt _
theorem mt_le (n i : Nat) : mt n i ≤ 8 := Nat.min_le_left _ _
theorem mk_and (n m i : Nat) : mk n i &&& mk m i = mk (min n m) i := by
  have := M_and ⟨mt n i, by have := mt_le n i; omega⟩ ⟨mt m i, by have := mt_le m i; omega⟩
  unfold mk
  rw [this]
  show M (min (mt n i) (mt m i)) = M (mt (min n m) i)
  congr 1
  unfold mt
  omega
/-! ### Rows of a length -/
def tab (N : Nat) (f : Nat → Int) : List Int := (List.range N).map f
theorem tab_len (N : Nat) (f : Nat → Int) : (tab N f).length = N := by unfold tab; simp
theorem tab_rd (N : Nat) (f : Nat → Int) (i : Nat) (h : i < N) : rd (tab N f) (i : Int) = f i := by
  unfold rd tab
  rw [Int.toNat_natCast, List.getD_eq_getElem?_getD, List.getElem?_map, List.getElem?_range h]; rfl
theorem tab_congr (N : Nat) (f g : Nat → Int) (h : ∀ j, j < N → f j = g j) : tab N f = tab N g := by
  unfold tab
  exact List.map_congr_left fun j hj => h j (List.mem_range.1 hj)
theorem tab_set (N : Nat) (f : Nat → Int) (i : Nat) (v : Int) : (tab N f).set i v = tab N (fun j => if j = i then v else f j) := by
  apply List.ext_getElem?
  intro j
  unfold tab
  rw [List.getElem?_set, List.getElem?_map, List.getElem?_map, List.length_map, List.length_range]
  by_cases hj : j < N
  · rw [List.getElem?_range hj]
    by_cases e : i = j
    · subst e; rw [if_pos rfl, if_pos hj]; simp
    · rw [if_neg e]; simp [show ¬ j = i from fun h => e h.symm]
  · rw [List.getElem?_eq_none (by simp; omega)]
    by_cases e : i = j
    · subst e; rw [if_pos rfl, if_neg hj]; rfl
    · rw [if_neg e]; rfl
theorem tab_zero (N : Nat) : List.replicate N (0 : Int) = tab N (fun _ => 0) := by
  unfold tab
  induction N with
  | zero => rfl
  | succ n ih => rw [List.replicate_succ', ih, List.range_succ, List.map_append]; rfl

/-! ### A network -/
def an (a : List Int) (n i : Nat) : Nat := if i < a.length then (rd a i).toNat &&& mk n i else 0
def netS (N : Nat) (a : List Int) (n : Nat) : ByteArray := strOfNums (tab N (fun i => (an a n i : Int))) ++ strOfNums (tab N (fun i => (mk n i : Int)))
theorem an_lt (a : List Int) (n i : Nat) : an a n i < 256 := by
  unfold an
  split
  · exact Nat.lt_of_le_of_lt Nat.and_le_right (mk_lt n i)
  · decide
def row1 (n i kk j : Nat) : Int := if j < i then (mk n j : Int) else if j = i then (M (min kk (n - 8 * i)) : Int) else 0
def row0 (f : Nat → Nat) (i j : Nat) : Int := if j < i then (f j : Int) else 0
theorem net_loop1 (a : List Int) (bits_ : Int) (N n i : Nat) (x8 : List Int) (hN : N = 4 ∨ N = 16) (hb0 : 0 ≤ bits_) (hb1 : bits_ < 256) (hn : (n : Int) = bits_ % (8 * N + 1)) (hi : i < N) (R : ByteArray)
    (hR : Ev (fun k => certpathlaw08_network.l1 k a bits_ N x8 (tab N (row1 n i 8)) i 8) R) : ∀ (d kk : Nat), kk + d = 8 → Ev (fun k => certpathlaw08_network.l1 k a bits_ N x8 (tab N (row1 n i kk)) i kk) R
  | 0, kk, h => by
    obtain rfl : kk = 8 := by omega
    exact hR
  | d + 1, kk, h => by
    have ih := net_loop1 a bits_ N n i x8 hN hb0 hb1 hn hi R hR d (kk + 1) (by omega)
    have hN2 : 1 ≤ N ∧ N ≤ 16 := by omega
    have e1 : wrap64 ((wrap64 (8 * (N : Int))) + 1) = 8 * (N : Int) + 1 := by rw [w64 (8 * (N : Int)) (by omega) (by omega), w64 _ (by omega) (by omega)]
    have e3 : wrap64 ((wrap64 (8 * (i : Int))) + (kk : Int)) = ((8 * i + kk : Nat) : Int) := by rw [w64 (8 * (i : Int)) (by omega) (by omega), w64 _ (by omega) (by omega)]; omega
    have e4 : wrap64 ((kk : Int) + 1) = ((kk + 1 : Nat) : Int) := by rw [w64 _ (by omega) (by omega)]; rfl
    have g1 : (kk : Int) < 8 := by omega
    have g2 : ¬ (8 * (N : Int) + 1) = 0 := by omega
    have g3 : (0 : Int) ≤ (i : Int) := Int.natCast_nonneg i
    have g4 : (i : Int) < ((tab N (row1 n i kk)).length : Int) := by rw [tab_len]; omega
    have g5 : (0 : Int) ≤ (kk : Int) := Int.natCast_nonneg kk
    have e2 : Int.tmod (wrap64 bits_) (8 * (N : Int) + 1) = (n : Int) := by rw [w64 _ (by omega) (by omega), Int.tmod_eq_emod_of_nonneg hb0, hn]
    have hrow : rd (tab N (row1 n i kk)) (i : Int) = (M (min kk (n - 8 * i)) : Int) := by
      rw [tab_rd N _ i hi]
      unfold row1
      rw [if_neg (Nat.lt_irrefl i), if_pos rfl]
    by_cases hc : 8 * i + kk < n
    · have hmin : min kk (n - 8 * i) = kk := Nat.min_eq_left (by omega)
      have hmin2 : min (kk + 1) (n - 8 * i) = kk + 1 := Nat.min_eq_left (by omega)
      have hor : bits .or .u8 ((M (min kk (n - 8 * i)) : Nat) : Int) (shr .u8 128 (kk : Int)) = (M (min (kk + 1) (n - 8 * i)) : Int) := by
        rw [hmin, hmin2, shr_128 kk (by omega), or_u8 _ _ (M_lt _) (Nat.lt_of_le_of_lt (Nat.pow_le_pow_right (by decide) (show 7 - kk ≤ 7 by omega)) (by decide)), M_next ⟨kk, by omega⟩]
      have hset : (tab N (row1 n i kk)).set i ((M (min (kk + 1) (n - 8 * i)) : Nat) : Int) = tab N (row1 n i (kk + 1)) := by
        rw [tab_set]
        refine tab_congr _ _ _ fun j _ => ?_
        unfold row1
        by_cases hj : j < i
        · rw [if_neg (show ¬ j = i by omega), if_pos hj, if_pos hj]
        · rw [if_neg hj, if_neg hj]
          by_cases e : j = i
          · rw [if_pos e, if_pos e]
          · rw [if_neg e, if_neg e, if_neg e]
      have g6 : ((8 * i + kk : Nat) : Int) < (n : Int) := by omega
      refine Ev.step (fun k => ?_) ih
      simp only [certpathlaw08_network.l1]
      rw [if_pos g1, e1, if_neg g2, e2, e3, if_pos g6, if_pos g3, if_pos g4, if_pos g5, hrow, hor, Int.toNat_natCast, hset, e4]
    · have hsame : tab N (row1 n i (kk + 1)) = tab N (row1 n i kk) := by
        refine tab_congr _ _ _ fun j _ => ?_
        unfold row1
        have : min (kk + 1) (n - 8 * i) = min kk (n - 8 * i) := by omega
        rw [this]
      rw [hsame] at ih
      have g6 : ¬ ((8 * i + kk : Nat) : Int) < (n : Int) := by omega
      refine Ev.step (fun k => ?_) ih
      simp only [certpathlaw08_network.l1]
      rw [if_pos g1, e1, if_neg g2, e2, e3, if_neg g6, e4]
theorem net_loop0 (a : List Int) (ha : ∀ x ∈ a, 0 ≤ x ∧ x < 256) (hal : a.length ≤ 1000) (bits_ : Int) (N n : Nat) (hN : N = 4 ∨ N = 16) (hb0 : 0 ≤ bits_) (hb1 : bits_ < 256) (hn : (n : Int) = bits_ % (8 * N + 1)) : ∀ (d i : Nat), i + d = N → Ev (fun k => certpathlaw08_network.l0 k a bits_ N (tab N (row0 (an a n) i)) (tab N (row0 (mk n) i)) i) (netS N a n)
  | 0, i, h => by
    obtain rfl : i = N := by omega
    have e8 : tab i (row0 (an a n) i) = tab i (fun j => (an a n j : Int)) := tab_congr _ _ _ fun j hj => by unfold row0; rw [if_pos hj]
    have e9 : tab i (row0 (mk n) i) = tab i (fun j => (mk n j : Int)) := tab_congr _ _ _ fun j hj => by unfold row0; rw [if_pos hj]
    have hsz : ∀ f, (strOfNums (tab i f)).size = i := fun f => by unfold strOfNums; simp [ByteArray.size, tab]
    refine Ev.step (f := fun _ => some _) (fun k => ?_) (Ev.now _)
    simp only [certpathlaw08_network.l0]
    rw [if_neg (Int.lt_irrefl _), hsz, hsz, if_pos (by omega), e8, e9]
    rfl
  | d + 1, i, h => by
    have hi : i < N := by omega
    have ih := net_loop0 a ha hal bits_ N n hN hb0 hb1 hn d (i + 1) (by omega)
    have e4 : wrap64 ((i : Int) + 1) = ((i + 1 : Nat) : Int) := by rw [w64 _ (by omega) (by omega)]; rfl
    have st : tab N (row0 (mk n) i) = tab N (row1 n i 0) := tab_congr _ _ _ fun j _ => by
      unfold row0 row1
      by_cases hj : j < i
      · rw [if_pos hj, if_pos hj]
      · rw [if_neg hj, if_neg hj, Nat.zero_min]
        by_cases e : j = i
        · rw [if_pos e]; rfl
        · rw [if_neg e]
    have en : tab N (row1 n i 8) = tab N (row0 (mk n) (i + 1)) := tab_congr _ _ _ fun j _ => by
      unfold row0 row1
      by_cases hj : j < i
      · rw [if_pos hj, if_pos (by omega)]
      · rw [if_neg hj]
        by_cases e : j = i
        · subst e; rw [if_pos rfl, if_pos (by omega)]; rfl
        · rw [if_neg e, if_neg (by omega)]
    have fin_ : Ev (fun k => certpathlaw08_network.l1 k a bits_ N (tab N (row0 (an a n) i)) (tab N (row1 n i 8)) i 8) (netS N a n) := by
      refine Ev.step (fun k => ?_) ih
      simp only [certpathlaw08_network.l1]
      rw [if_neg (show ¬ (8 : Int) < 8 by decide), en]
      by_cases hia : i < a.length
      · have hx := ha _ (show rd a i ∈ a by
          unfold rd
          rw [Int.toNat_natCast, List.getD_eq_getElem?_getD, List.getElem?_eq_getElem hia]
          exact List.getElem_mem _)
        have hm : rd (tab N (row0 (mk n) (i + 1))) (i : Int) = (mk n i : Int) := by
          rw [tab_rd N _ i hi]
          unfold row0
          rw [if_pos (by omega)]
        have hand : bits .and .u8 (rd a (i : Int)) ((mk n i : Nat) : Int) = (an a n i : Int) := by
          have e : rd a (i : Int) = ((rd a (i : Int)).toNat : Int) := by omega
          rw [e, and_nat _ _ (by omega) (mk_lt n i)]
          unfold an
          rw [if_pos hia]
        have hset : (tab N (row0 (an a n) i)).set i ((an a n i : Nat) : Int) = tab N (row0 (an a n) (i + 1)) := by
          rw [tab_set]
          refine tab_congr _ _ _ fun j _ => ?_
          unfold row0
          by_cases e : j = i
          · subst e; rw [if_pos rfl, if_pos (by omega)]
          · rw [if_neg e]
            by_cases hj : j < i
            · rw [if_pos hj, if_pos (by omega)]
            · rw [if_neg hj, if_neg (by omega)]
        rw [if_pos (by omega), if_pos (Int.natCast_nonneg i), if_pos (by rw [tab_len]; omega), if_pos (by rw [tab_len]; omega), hm, hand, Int.toNat_natCast, hset, e4]
      · have hsame : tab N (row0 (an a n) (i + 1)) = tab N (row0 (an a n) i) := tab_congr _ _ _ fun j _ => by
          unfold row0
          by_cases hj : j < i
          · rw [if_pos hj, if_pos (by omega)]
          · rw [if_neg hj]
            by_cases e : j = i
            · subst e
              rw [if_pos (by omega)]
              unfold an
              rw [if_neg hia]; rfl
            · rw [if_neg (by omega)]
        rw [if_neg (by omega), hsame, e4]
    refine Ev.step (fun k => by
      simp only [certpathlaw08_network.l0]
      rw [if_pos (show (i : Int) < (N : Int) by omega), st]) ?_
    exact net_loop1 a bits_ N n i _ hN hb0 hb1 hn hi _ fin_ 8 0 (by omega)
def wid (wide : Bool) : Nat := if wide = true then 16 else 4
def nb (wide : Bool) (bits_ : Int) : Nat := (bits_ % (8 * (wid wide : Int) + 1)).toNat
theorem net_f (a : List Int) (ha : ∀ x ∈ a, 0 ≤ x ∧ x < 256) (hal : a.length ≤ 1000) (bits_ : Int) (hb0 : 0 ≤ bits_) (hb1 : bits_ < 256) (wide : Bool) : Ev (fun k => certpathlaw08_network.f k a bits_ wide) (netS (wid wide) a (nb wide bits_)) := by
  have main : ∀ N : Nat, N = 4 ∨ N = 16 → Ev (fun k => certpathlaw08_network.j0 k a bits_ N) (netS N a (bits_ % (8 * (N : Int) + 1)).toNat) := by
    intro N hN
    have z1 : List.replicate N (0 : Int) = tab N (row0 (an a (bits_ % (8 * (N : Int) + 1)).toNat) 0) := by rw [tab_zero]; rfl
    have z2 : List.replicate N (0 : Int) = tab N (row0 (mk (bits_ % (8 * (N : Int) + 1)).toNat) 0) := by rw [tab_zero]; rfl
    have L := net_loop0 a ha hal bits_ N (bits_ % (8 * (N : Int) + 1)).toNat hN hb0 hb1 (by have := Int.emod_nonneg bits_ (show (8 * (N : Int) + 1) ≠ 0 by omega); omega) N 0 (by omega)
    rw [← z1, ← z2] at L
    refine Ev.step (fun k => ?_) L
    simp only [certpathlaw08_network.j0]
    rw [if_pos (Int.natCast_nonneg N), Int.toNat_natCast, if_pos (by omega)]
    rfl
  unfold certpathlaw08_network.f
  cases wide with
  | true => exact Ev.congr (fun k => by rw [if_pos rfl]; rfl) (main 16 (.inr rfl))
  | false => exact Ev.congr (fun k => by rw [if_neg (by decide)]; rfl) (main 4 (.inl rfl))
/-! ### Its bytes -/
theorem L_strOf (N : Nat) (f : Nat → Nat) (i : Nat) (hi : i < N) (hf : ∀ j, f j < 256) : ((L (strOfNums (tab N (fun j => (f j : Int))))).getD i 0).toNat = f i := by
  have hb := bytes_strOf (tab N (fun j => (f j : Int))) (by
    intro b hb
    unfold tab at hb
    obtain ⟨j, _, rfl⟩ := List.mem_map.1 hb
    have := hf j
    omega)
  have h1 : rd (bytesOf (strOfNums (tab N (fun j => (f j : Int))))) (i : Int) = (f i : Int) := by rw [hb, tab_rd N _ i hi]
  rw [rd_bytesOf, bt_L, Int.toNat_natCast] at h1
  omega
theorem size_strOf (N : Nat) (f : Nat → Int) : (strOfNums (tab N f)).size = N := by unfold strOfNums; simp [ByteArray.size, tab]
theorem net_size (N : Nat) (a : List Int) (n : Nat) : (netS N a n).size = 2 * N := by
  unfold netS
  rw [ByteArray.size_append, size_strOf, size_strOf]; omega
theorem net_addr (N : Nat) (a : List Int) (n i : Nat) (hi : i < N) : by_ (netS N a n) i = an a n i := by
  have hl : (L (strOfNums (tab N (fun i => (an a n i : Int))))).length = N := by rw [← size_L, size_strOf]
  unfold by_ netS
  rw [L_append, List.getD_eq_getElem?_getD, List.getElem?_append_left (by omega), ← List.getD_eq_getElem?_getD]
  exact L_strOf N (an a n) i hi (an_lt a n)
theorem net_mask (N : Nat) (a : List Int) (n i : Nat) (hi : i < N) : by_ (netS N a n) (N + i) = mk n i := by
  have hl : (L (strOfNums (tab N (fun i => (an a n i : Int))))).length = N := by rw [← size_L, size_strOf]
  unfold by_ netS
  rw [L_append, List.getD_eq_getElem?_getD, List.getElem?_append_right (by omega), hl, Nat.add_sub_cancel_left, ← List.getD_eq_getElem?_getD]
  exact L_strOf N (mk n) i hi (mk_lt n)
theorem net_range (N : Nat) (hN : N = 4 ∨ N = 16) (a : List Int) (n : Nat) : rangeS (netS N a n) = true := by
  unfold rangeS
  have e2 : (netS N a n).size / 2 = N := by rw [net_size]; omega
  rw [decide_eq_true (by rw [net_size]; omega), Bool.true_and, e2]
  refine (rg_congr (tb (netS N a n) 0) (fun i => tb (netS N a n) 0 i && decide (i < 8 * N)) (tb (netS N a n) N) (fun i => decide (i < min n (8 * N))) (8 * N) ?_ ?_ (8 * N) 0 false (by omega)).trans ?_
  · intro j hj
    rw [decide_eq_true hj, Bool.and_true]
  · intro j hj
    unfold tb
    rw [net_mask N a n (j / 8) (by omega), decide_eq_decide]
    unfold mk
    rw [M_bit ⟨mt n (j / 8), by have := mt_le n (j / 8); omega⟩ ⟨j % 8, by omega⟩]
    unfold mt
    simp only []
    omega
  · refine rg_net _ _ (min n (8 * N)) (fun _ => rfl) ?_ _ _ _ (fun h => by cases h)
    intro i hi
    rw [Bool.and_eq_true, decide_eq_true_iff] at hi
    obtain ⟨h1, h2⟩ := hi
    unfold tb at h1
    rw [Nat.zero_add, net_addr N a n (i / 8) (by omega)] at h1
    have h3 := of_decide_eq_true h1
    unfold an at h3
    split at h3
    · rw [← decide_eq_true_iff (p := _ % 2 = 1), ← tb_div, Nat.testBit_and, Bool.and_eq_true, tb_div, tb_div, decide_eq_true_iff, decide_eq_true_iff] at h3
      have h4 := (M_bit ⟨mt n (i / 8), by have := mt_le n (i / 8); omega⟩ ⟨i % 8, by omega⟩).1 h3.2
      unfold mt at h4
      simp only [] at h4
      omega
    · rw [Nat.zero_div] at h3; exact absurd h3 (by decide)
theorem aw_net (N : Nat) (hN : N = 4 ∨ N = 16) (a b : List Int) (n m : Nat) : awS (netS N a n) (netS N b m) = true ↔ (∀ i, i < N → mk n i &&& mk m i = mk m i) ∧ (∀ i, i < N → an a n i &&& mk m i = an b m i) := by
  unfold awS
  have e2 : (netS N b m).size / 2 = N := by rw [net_size]; omega
  rw [net_range N hN, Bool.true_and, if_pos ⟨by rw [net_size, net_size], net_range N hN a n⟩, e2, Bool.and_eq_true, allN_iff, allN_iff]
  constructor
  · rintro ⟨h1, h2⟩
    refine ⟨fun i hi => ?_, fun i hi => ?_⟩
    · have := of_decide_eq_true (h1 i (by omega) (by omega))
      rw [net_mask N a n i hi, net_mask N b m i hi] at this
      exact this
    · have := of_decide_eq_true (h2 i (by omega) (by omega))
      rw [net_addr N a n i hi, net_mask N b m i hi, net_addr N b m i hi] at this
      exact this
  · rintro ⟨h1, h2⟩
    refine ⟨fun i _ hi => decide_eq_true ?_, fun i _ hi => decide_eq_true ?_⟩
    · rw [net_mask N a n i (by omega), net_mask N b m i (by omega)]
      exact h1 i (by omega)
    · rw [net_addr N a n i (by omega), net_mask N b m i (by omega), net_addr N b m i (by omega)]
      exact h2 i (by omega)
theorem an_and (a : List Int) (n m i : Nat) (h : m ≤ n) : an a n i &&& mk m i = an a m i := by
  unfold an
  split
  · rw [Nat.and_assoc, mk_and, Nat.min_eq_right h]
  · exact Nat.zero_and _
theorem aw_same (N : Nat) (hN : N = 4 ∨ N = 16) (a : List Int) (n m : Nat) (h : m ≤ n) : awS (netS N a n) (netS N a m) = true := by
  rw [aw_net N hN]
  exact ⟨fun i _ => by rw [mk_and, Nat.min_eq_right h], fun i _ => an_and a n m i h⟩
theorem aw_one (N : Nat) (hN : N = 4 ∨ N = 16) (a b : List Int) (n m : Nat) (h : awS ((netS N a n).extract 0 N) (netS N b m) = true) : ∀ i, i < N → an a n i &&& mk m i = an b m i := by
  have hs : ((netS N a n).extract 0 N).size = N := size_first _ N (net_size N a n)
  unfold awS at h
  have e2 : (netS N b m).size / 2 = N := by rw [net_size]; omega
  rw [net_range N hN, Bool.true_and, if_neg (by rw [hs, net_size]; omega), e2, Bool.and_eq_true, allN_iff] at h
  intro i hi
  have := of_decide_eq_true (h.2 i (by omega) (by omega))
  rw [by_first _ N i (net_size N a n) hi, net_addr N a n i hi, net_mask N b m i hi, net_addr N b m i hi] at this
  exact this
theorem aw_nested (N : Nat) (hN : N = 4 ∨ N = 16) (a b : List Int) (n m : Nat) (h : awS ((netS N a n).extract 0 N) (netS N b m) = true) : awS (netS N a n) (netS N b m) = true ∨ awS (netS N b m) (netS N a n) = true := by
  have h1 := aw_one N hN a b n m h
  by_cases hnm : m ≤ n
  · exact .inl ((aw_net N hN a b n m).2 ⟨fun i _ => by rw [mk_and, Nat.min_eq_right hnm], h1⟩)
  · refine .inr ((aw_net N hN b a m n).2 ⟨fun i _ => by rw [mk_and, Nat.min_eq_right (by omega)], fun i hi => ?_⟩)
    rw [← h1 i hi, Nat.and_assoc, mk_and, Nat.min_eq_right (show n ≤ m by omega)]
    exact an_and a n n i (Nat.le_refl _)
end Go.Proofs.YtegmenlonpgnpaaDoor.Net
