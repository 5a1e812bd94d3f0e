/- The object identifier functions of the program and of the document's definition, each as a plain function of strings. -/
import Derived.Test.YtcmmlemajlhjoaaDoorRx1
import Derived.Test.YtcmmlemajlhjoaaDoorRx3
import Derived.Test.YtcmmlemajlhjoaaDoorRx2
import Derived.Test.YtcmmlemajlhjoaaDoorRx6
import Derived.Test.YtcmmlemajlhjoaaDoorRx9
import Derived.Test.YtcmmlemajlhjoaaDoorRx10
import Derived.Test.YtcmmlemajlhjoaaDoorStr
import Derived.Test.YtcmmlemajlhjoaaDoorBit
import Derived.KernelRfl
set_option linter.unusedVariables false
set_option linter.unusedSimpArgs false
namespace Go.Proofs.YtcmmlemajlhjoaaDoor.Oid
open Go Go.RowKit Go.Proofs.YtcmmlemajlhjoaaDoor.Q Go.Proofs.YtcmmlemajlhjoaaDoorW.PrintWords Go.Proofs.YtcmmlemajlhjoaaDoorW.PrintLast Go.Proofs.YtcmmlemajlhjoaaDoorW.PrintMore Go.Proofs.YtcmmlemajlhjoaaDoor.Num Go.Proofs.YtcmmlemajlhjoaaDoor.Str

/-! ### Arcs -/
def dig (b : UInt8) : Bool := decide (48 ≤ b.toNat) && decide (b.toNat ≤ 57)
def val : Int → List UInt8 → Int
  | v, [] => v
  | v, b :: l => val (10 * v + ((b.toNat : Int) - 48)) l
def okP (p : List UInt8) : Bool := decide (p ≠ []) && (decide (p.length ≤ 10) && (!(decide (1 < p.length) && decide (p.head? = some 48)) && (p.all dig && decide (val 0 p ≤ 2147483647))))
def rootB (a b : Int) : Bool := (decide (a ≤ 1) && decide (b ≤ 39)) || decide (a = 2)
def arcsS (s : ByteArray) : Option (List Int) :=
  if 2 ≤ (spl 46 (L s)).length ∧ (spl 46 (L s)).length ≤ 12 ∧ (spl 46 (L s)).all okP = true ∧ rootB (rd ((spl 46 (L s)).map (val 0)) 0) (rd ((spl 46 (L s)).map (val 0)) 1) = true then some ((spl 46 (L s)).map (val 0)) else none
theorem cast_ev {α : Type} {g : Nat → Option α} {r r2 : α} (h : Ev g r) (e : r = r2) : Ev g r2 := e ▸ h
theorem dig_range (b : UInt8) (h : dig b = true) : 48 ≤ b.toNat ∧ b.toNat ≤ 57 := by
  unfold dig at h
  simpa using h
theorem val_nn : ∀ (l : List UInt8) (v : Int), 0 ≤ v → l.all dig = true → 0 ≤ val v l
  | [], v, h, _ => h
  | b :: l, v, h, ha => by
    rw [List.all_cons, Bool.and_eq_true] at ha
    have := dig_range b ha.1
    exact val_nn l _ (by omega) ha.2
theorem val_lt : ∀ (l : List UInt8) (v : Int) (i : Nat), 0 ≤ v → v < 10 ^ i → l.all dig = true → val v l < 10 ^ (i + l.length)
  | [], v, i, _, h, _ => h
  | b :: l, v, i, h0, h, ha => by
    rw [List.all_cons, Bool.and_eq_true] at ha
    have hb := dig_range b ha.1
    have := val_lt l (10 * v + ((b.toNat : Int) - 48)) (i + 1) (by omega) (by rw [Int.pow_succ]; generalize (10 : Int) ^ i = P at *; omega) ha.2
    rw [show i + 1 + l.length = i + (b :: l).length by simp; omega] at this
    exact this
theorem pow10 (i : Nat) (h : i ≤ 10) : (10 : Int) ^ i ≤ 10000000000 := by
  have := Nat.pow_le_pow_right (n := 10) (by decide) h
  have e : (10 : Nat) ^ 10 = 10000000000 := by decide
  have e2 : ((10 ^ i : Nat) : Int) = (10 : Int) ^ i := by simp
  rw [← e2]; omega
theorem bt_b (s : ByteArray) (i : Nat) (b : UInt8) (r : List UInt8) (h : (L s).drop i = b :: r) : bt s i = (b.toNat : Int) ∧ (L s).drop (i + 1) = r ∧ i < s.size := by
  have hl : i < (L s).length := by
    rcases Nat.lt_or_ge i (L s).length with h' | h'
    · exact h'
    · rw [List.drop_eq_nil_of_le h'] at h; cases h
  rw [List.drop_eq_getElem_cons hl] at h
  injection h with h1 h2
  exact ⟨by rw [bt_get s i hl, h1], h2, by rw [size_L]; exact hl⟩
theorem arc_loop (s : ByteArray) (hs : s.size ≤ 10) : ∀ (l : List UInt8) (i : Nat) (v : Int), (L s).drop i = l → i + l.length = s.size → 0 ≤ v → v < 10 ^ i →
    Ev (fun k => oid_arc.l0 k s v i) (if l.all dig = true then (if val v l ≤ 2147483647 then val v l else -1) else -1)
  | [], i, v, hd, hi, h0, h1 => by
    refine Ev.step (f := fun _ => some _) (fun k => ?_) (Ev.now _)
    simp only [oid_arc.l0]
    have hi' : i = s.size := by simpa using hi
    rw [if_neg (by omega)]
    by_cases hv : v ≤ 2147483647
    · rw [if_neg (by omega), if_pos (show ([] : List UInt8).all dig = true from rfl), if_pos (show val v [] ≤ 2147483647 from hv)]; rfl
    · rw [if_pos (by omega), if_pos (show ([] : List UInt8).all dig = true from rfl), if_neg (show ¬ val v [] ≤ 2147483647 from hv)]
  | b :: l, i, v, hd, hi, h0, h1 => by
    obtain ⟨hb, hr, hlt⟩ := bt_b s i b l hd
    have hp := pow10 i (by omega)
    by_cases hdg : dig b = true
    · have hrg := dig_range b hdg
      have ih := arc_loop s hs l (i + 1) (10 * v + ((b.toNat : Int) - 48)) hr (by simp at hi; omega) (by omega) (by rw [Int.pow_succ]; generalize (10 : Int) ^ i = P at *; omega)
      rw [List.all_cons, hdg, Bool.true_and]
      refine Ev.step (fun k => ?_) ih
      simp only [oid_arc.l0]
      have e1 : ((b.toNat : Int) - 48) % 256 = (b.toNat : Int) - 48 := by omega
      rw [if_pos (by omega), if_pos (by omega), hb, if_neg (by omega), if_neg (by omega), e1, w64 (10 * v) (by omega) (by omega), w64 _ (by omega) (by omega), w64 _ (by omega) (by omega)]
      try rfl
    · rw [List.all_cons, Bool.eq_false_iff.2 hdg, Bool.false_and]
      refine Ev.step (f := fun _ => some (-1)) (fun k => ?_) (Ev.now _)
      simp only [oid_arc.l0]
      rw [if_pos (by omega), if_pos (by omega), hb]
      by_cases h48 : (b.toNat : Int) < 48
      · rw [if_pos h48]
      · rw [if_neg h48]
        have : ¬ (b.toNat ≤ 57) := by
          intro h57
          exact hdg (by unfold dig; simp; omega)
        rw [if_pos (by omega)]
theorem head_bt (s : ByteArray) (h : 0 < s.size) : decide (bt s 0 = 48) = decide ((L s).head? = some 48) := by
  cases hl : L s with
  | nil => rw [size_L, hl] at h; exact absurd h (by decide)
  | cons b r =>
    have := (bt_b s 0 b r (by rw [List.drop_zero]; exact hl)).1
    rw [show ((0 : Nat) : Int) = 0 from rfl] at this
    rw [this, decide_eq_decide, show (48 : Int) = ((48 : Nat) : Int) from rfl, byte_eq b 48 (by decide)]
    simp only [List.head?_cons, Option.some.injEq]
    rfl
theorem arc_f (s : ByteArray) : Ev (fun k => oid_arc.f k s) (if okP (L s) = true then val 0 (L s) else -1) := by
  have bad : Ev (fun k => oid_arc.j0 k s true) (-1) := Ev.step (f := fun _ => some (-1)) (fun k => by simp only [oid_arc.j0]; rw [if_pos trivial]) (Ev.now _)
  unfold okP
  by_cases h0 : L s = []
  · rw [decide_eq_false (by simp [h0]), Bool.false_and]
    exact Ev.congr (fun k => by unfold oid_arc.f; rw [if_pos (by rw [toList_L]; exact h0)]) bad
  · have hpos : 0 < s.size := by rw [size_L]; exact List.length_pos_iff.2 h0
    rw [decide_eq_true h0, Bool.true_and]
    refine Ev.congr (fun k => by unfold oid_arc.f; rw [if_neg (by rw [toList_L]; exact h0)]) ?_
    by_cases h10 : s.size ≤ 10
    · rw [decide_eq_true (show (L s).length ≤ 10 by rw [← size_L]; exact h10), Bool.true_and]
      refine Ev.congr (fun k => by rw [if_neg (by omega), if_pos (by omega)]) ?_
      have loop : Ev (fun k => oid_arc.j0 k s false) (if ((L s).all dig && decide (val 0 (L s) ≤ 2147483647)) = true then val 0 (L s) else -1) := by
        refine Ev.step (fun k => by simp only [oid_arc.j0]; rw [if_neg (by decide)]) ?_
        have := arc_loop s h10 (L s) 0 0 List.drop_zero (by rw [size_L]; omega) (by decide) (by decide)
        refine cast_ev this ?_
        cases (L s).all dig with
        | false => simp
        | true => simp
      have hh := head_bt s hpos
      by_cases h48 : bt s 0 = 48
      · rw [← hh, decide_eq_true h48, Bool.and_true]
        refine Ev.congr (fun k => by rw [if_pos h48]) ?_
        by_cases h1 : 1 < s.size
        · rw [decide_eq_true (show 1 < (L s).length by rw [← size_L]; exact h1)]
          refine Ev.congr (fun k => by rw [decide_eq_true (show (s.size : Int) > 1 by omega)]) ?_
          exact bad
        · rw [decide_eq_false (show ¬ 1 < (L s).length by rw [← size_L]; exact h1)]
          refine Ev.congr (fun k => by rw [decide_eq_false (show ¬ (s.size : Int) > 1 by omega)]) ?_
          rw [Bool.not_false, Bool.true_and]
          exact loop
      · rw [← hh, decide_eq_false h48, Bool.and_false, Bool.not_false, Bool.true_and]
        refine Ev.congr (fun k => by rw [if_neg h48]) ?_
        exact loop
    · rw [decide_eq_false (show ¬ (L s).length ≤ 10 by rw [← size_L]; exact h10), Bool.false_and]
      refine Ev.congr (fun k => by rw [if_pos (by omega)]) ?_
      exact bad
theorem okP_parts (p : List UInt8) (h : okP p = true) : p ≠ [] ∧ p.length ≤ 10 ∧ p.all dig = true ∧ val 0 p ≤ 2147483647 ∧ 0 ≤ val 0 p := by
  unfold okP at h
  simp only [Bool.and_eq_true, decide_eq_true_eq] at h
  exact ⟨h.1, h.2.1, h.2.2.2.1, h.2.2.2.2, val_nn p 0 (by decide) h.2.2.2.1⟩
theorem rd_vals (ps : List (List UInt8)) : rd (ps.map (val 0)) 0 = rd (ps.map (val 0)) 0 := rfl
theorem rdOf_ba (l : List (List UInt8)) (i : Nat) (h : i < l.length) : rdOf ByteArray.empty (l.map ba) (i : Int) = ba l[i] := by
  unfold rdOf
  rw [Int.toNat_natCast, List.getD_eq_getElem?_getD, List.getElem?_map, List.getElem?_eq_getElem h]; rfl
theorem root_f (a b : Int) : oid_root.f a b = some (rootB a b) := by
  unfold oid_root.f rootB
  by_cases h : a ≤ 1
  · rw [if_pos h, decide_eq_true h, Bool.true_and]
    by_cases g : b ≤ 39
    · rw [if_pos g, decide_eq_true g]; rfl
    · rw [if_neg g, decide_eq_false g]; rfl
  · rw [if_neg h, decide_eq_false h]; rfl
theorem arcs_loop (ps : List (List UInt8)) (h2 : 2 ≤ ps.length) (h12 : ps.length ≤ 12) : ∀ (d i : Nat), i + d = ps.length →
    Ev (fun k => oid_arcs.l0 k ((ps.take i).map (val 0)) (ps.map ba) ps.length i) (if (ps.drop i).all okP = true ∧ rootB (rd (ps.map (val 0)) 0) (rd (ps.map (val 0)) 1) = true then ps.map (val 0) else [])
  | 0, i, hi => by
    have hi' : i = ps.length := by omega
    subst hi'
    rw [List.take_length, List.drop_length]
    refine Ev.step (f := fun _ => some _) (fun k => ?_) (Ev.now _)
    simp only [oid_arcs.l0, List.length_map]
    rw [if_neg (by omega), if_pos (by omega), if_pos (by omega), root_f, Option.bind_some]
    simp only [List.all_nil, true_and]
    by_cases hr : rootB (rd (ps.map (val 0)) 0) (rd (ps.map (val 0)) 1) = true
    · rw [if_pos hr, if_pos hr]
    · rw [if_neg hr, if_neg hr]
  | d + 1, i, hi => by
    have hlt : i < ps.length := by omega
    rw [List.drop_eq_getElem_cons hlt, List.all_cons]
    refine Ev.step (fun k => by
      simp only [oid_arcs.l0, List.length_map]
      rw [if_pos (by omega), if_pos (by omega), if_pos (by omega), rdOf_ba ps i hlt]) ?_
    refine Ev.bind (arc_f _) ?_
    rw [L_ba]
    by_cases ho : okP ps[i] = true
    · obtain ⟨_, _, _, _, h0⟩ := okP_parts _ ho
      rw [if_pos ho, ho, Bool.true_and]
      have ih := arcs_loop ps h2 h12 d (i + 1) (by omega)
      refine Ev.congr (fun k => ?_) ih
      rw [if_neg (by omega), if_pos (by rw [List.length_take]; omega), w64 _ (by omega) (by omega), List.take_succ_eq_append_getElem hlt, List.map_append]
      rfl
    · rw [if_neg ho, Bool.eq_false_iff.2 ho, Bool.false_and]
      exact Ev.congr (f := fun _ => some []) (fun k => by rw [if_pos (by decide)]) (Ev.now _)
theorem spl_len (c : UInt8) : ∀ l : List UInt8, (spl c l).length ≤ l.length + 1
  | [] => by simp [spl]
  | x :: xs => by
    have ih := spl_len c xs
    rw [spl_cons]
    by_cases e : x = c
    · rw [if_pos e]; simp; omega
    · rw [if_neg e]
      cases hq : spl c xs with
      | nil => simp
      | cons q qs => rw [hq] at ih; simp at ih ⊢; omega
theorem split_f (s : ByteArray) (hs : s.size ≤ 4000000000) (c : UInt8) : Hand.strings_Split.f s ⟨#[c]⟩ = some ((spl c (L s)).map ba) := by
  unfold Hand.strings_Split.f
  rw [if_pos (by omega), if_pos (show 1 ≤ (⟨#[c]⟩ : ByteArray).size from Nat.le_refl 1), splitB_spl]
theorem arcs_p (s : ByteArray) (hs : s.size ≤ 100000) : Ev (fun k => oid_arcs.f k s) ((arcsS s).getD []) := by
  have bad : ∀ xs, Ev (fun k => oid_arcs.j0 k xs true) [] := fun xs => Ev.step (f := fun _ => some []) (fun k => by simp only [oid_arcs.j0]; rw [if_pos trivial]) (Ev.now _)
  unfold arcsS
  generalize hps : spl 46 (L s) = ps
  have hsp : Hand.strings_Split.f s ⟨#[46]⟩ = some (ps.map ba) := by rw [split_f s (by omega) 46, hps]
  refine Ev.congr (fun k => by unfold oid_arcs.f; rw [hsp, Option.bind_some, List.length_map]) ?_
  by_cases h2 : 2 ≤ ps.length
  · refine Ev.congr (fun k => by rw [if_neg (by omega)]) ?_
    by_cases h12 : ps.length ≤ 12
    · rw [decide_eq_false (show ¬ (ps.length : Int) > 12 by omega)]
      refine Ev.step (fun k => by simp only [oid_arcs.j0]; rw [if_neg (by decide), List.length_map]) ?_
      refine cast_ev (arcs_loop ps h2 h12 ps.length 0 (by omega)) ?_
      rw [List.drop_zero]
      by_cases hc : ps.all okP = true ∧ rootB (rd (ps.map (val 0)) 0) (rd (ps.map (val 0)) 1) = true
      · rw [if_pos hc, if_pos ⟨h2, h12, hc⟩]; rfl
      · rw [if_neg hc, if_neg (fun h => hc h.2.2)]; rfl
    · rw [decide_eq_true (show (ps.length : Int) > 12 by omega), if_neg (fun h => h12 h.2.1)]
      exact bad _
  · refine Ev.congr (fun k => by rw [if_pos (by omega)]) ?_
    rw [if_neg (fun h => h2 h.1)]
    exact bad _
theorem arcs_len (s : ByteArray) (l : List Int) (h : arcsS s = some l) : 2 ≤ l.length ∧ l.length ≤ 12 ∧ (∀ v ∈ l, 0 ≤ v ∧ v ≤ 2147483647) ∧ rootB (rd l 0) (rd l 1) = true := by
  unfold arcsS at h
  split at h
  · rename_i hc
    obtain rfl := Option.some.inj h
    refine ⟨by rw [List.length_map]; exact hc.1, by rw [List.length_map]; exact hc.2.1, ?_, hc.2.2.2⟩
    intro v hv
    obtain ⟨p, hp, rfl⟩ := List.mem_map.1 hv
    obtain ⟨_, _, _, h3, h4⟩ := okP_parts p (List.all_eq_true.1 hc.2.2.1 p hp)
    exact ⟨h4, h3⟩
  · cases h
theorem valid_p (s : ByteArray) (hs : s.size ≤ 100000) : Ev (fun k => oid_Valid.f k s) (arcsS s).isSome := by
  refine Ev.bind (arcs_p s hs) ?_
  refine cast_ev (Ev.now _) ?_
  cases h : arcsS s with
  | none => rfl
  | some l =>
    have := (arcs_len s l h).1
    simp only [Option.getD_some, Option.isSome_some]
    rw [bne_iff_ne]; omega

/-! ### The definition's arcs -/
def finS (l : List Int) : List Int × Bool := if 2 ≤ l.length ∧ rootB (rd l 0) (rd l 1) = true then (l, true) else ([], false)
def refS (out : List Int) (ps : List (List UInt8)) : List Int × Bool := if ps.all okP = true ∧ out.length + ps.length ≤ 12 then finS (out ++ ps.map (val 0)) else ([], false)
theorem fin_f (s : ByteArray) (out : List Int) (at_ i : Int) (hi : (s.size : Int) < i) (hn : ∀ v ∈ out, 0 ≤ v) : Ev (fun k => certpathref01_arcs.l0 k s out at_ i) (finS out) := by
  refine Ev.step (f := fun _ => some _) (fun k => ?_) (Ev.now _)
  simp only [certpathref01_arcs.l0]
  rw [if_neg (by omega)]
  unfold finS rootB
  by_cases h2 : 2 ≤ out.length
  · rw [if_neg (by omega), if_pos (by omega)]
    by_cases ha : rd out 0 > 2
    · rw [if_pos ha, if_neg (by simp; omega)]
    · rw [if_neg ha]
      by_cases hb : rd out 0 < 2
      · rw [if_pos hb, if_pos (by omega)]
        by_cases hc : rd out 1 > 39
        · rw [if_pos hc, if_neg (by simp; omega)]
        · rw [if_neg hc, if_pos (by simp; omega)]
      · rw [if_neg hb, if_pos (by simp; omega)]
  · rw [if_pos (by omega), if_neg (fun h => h2 h.1)]
theorem val_loop (s c : ByteArray) (out : List Int) (i : Int) (hc : c.size ≤ 10) (r : List Int × Bool) (hi0 : 0 ≤ i) (hi1 : i ≤ 1000000) (ho : out.length ≤ 12) (hall : (L c).all dig = true)
    (hr : val 0 (L c) ≤ 2147483647 → Ev (fun k => certpathref01_arcs.l0 k s (out ++ [val 0 (L c)]) (i + 1) (i + 1)) r) : ∀ (l : List UInt8) (j : Nat) (v : Int), (L c).drop j = l → j + l.length = c.size → 0 ≤ v → v < 10 ^ j → val v l = val 0 (L c) → l.all dig = true →
    Ev (fun k => certpathref01_arcs.l1 k s out i c v j) (if val 0 (L c) ≤ 2147483647 then r else ([], false))
  | [], j, v, hd, hj, h0, h1, hv, _ => by
    have hj' : j = c.size := by simpa using hj
    have hv' : v = val 0 (L c) := hv
    by_cases h : val 0 (L c) ≤ 2147483647
    · rw [if_pos h]
      refine Ev.step (fun k => ?_) (hr h)
      simp only [certpathref01_arcs.l1]
      rw [if_neg (by omega), if_neg (by omega), if_pos (by omega), w64 _ (by omega) (by omega), hv']
    · rw [if_neg h]
      refine Ev.step (f := fun _ => some _) (fun k => ?_) (Ev.now _)
      simp only [certpathref01_arcs.l1]
      rw [if_neg (by omega), if_pos (by omega)]
  | b :: l, j, v, hd, hj, h0, h1, hv, ha => by
    obtain ⟨hb, hr', hlt⟩ := bt_b c j b l hd
    rw [List.all_cons, Bool.and_eq_true] at ha
    have hrg := dig_range b ha.1
    have hp := pow10 j (by omega)
    have ih := val_loop s c out i hc r hi0 hi1 ho hall hr l (j + 1) (10 * v + ((b.toNat : Int) - 48)) hr' (by simp at hj; omega) (by omega) (by rw [Int.pow_succ]; generalize (10 : Int) ^ j = P at *; omega) hv ha.2
    refine Ev.step (fun k => ?_) ih
    simp only [certpathref01_arcs.l1]
    have e1 : ((b.toNat : Int) - 48) % 256 = (b.toNat : Int) - 48 := by omega
    rw [if_pos (by omega), if_pos (by omega), hb, e1, w64 (10 * v) (by omega) (by omega), w64 _ (by omega) (by omega), w64 _ (by omega) (by omega)]
    rfl
theorem piece (s : ByteArray) (hs : s.size ≤ 100000) (out : List Int) (a i : Nat) (ha : a ≤ i) (hi : i ≤ s.size) (ho : out.length ≤ 12) (cur : List UInt8) (hcur : cur = ((L s).drop a).take (i - a)) (hall : cur.all dig = true)
    (r : List Int × Bool) (hr : okP cur = true → out.length ≠ 12 → Ev (fun k => certpathref01_arcs.l0 k s (out ++ [val 0 cur]) ((i : Int) + 1) ((i : Int) + 1)) r) :
    Ev (fun k => certpathref01_arcs.j1 k s out a i false) (if okP cur = true ∧ out.length ≠ 12 then r else ([], false)) := by
  have hcl : cur.length = i - a := by rw [hcur, List.length_take, List.length_drop, ← size_L]; omega
  have hex : s.extract a i = ba cur := ext_L (by rw [L_extract, L_ba, hcur])
  have bad : Ev (fun k => certpathref01_arcs.j2 k s out i (ba cur) true) ([], false) := Ev.step (f := fun _ => some _) (fun k => by simp only [certpathref01_arcs.j2]; rw [if_pos trivial]) (Ev.now _)
  refine Ev.step (fun k => by
    simp only [certpathref01_arcs.j1]
    rw [if_neg (by decide), if_pos (by omega), if_pos (by omega), if_pos (by omega), Int.toNat_natCast, Int.toNat_natCast, hex, size_ba]) ?_
  unfold okP at hr ⊢
  by_cases h0 : cur = []
  · have hl0 : cur.length = 0 := by rw [h0]; rfl
    rw [decide_eq_false (by simp [h0]), Bool.false_and, if_neg (by simp)]
    exact Ev.congr (fun k => by rw [if_pos (by omega)]) bad
  · have hpos : 0 < cur.length := List.length_pos_iff.2 h0
    rw [decide_eq_true h0, Bool.true_and] at hr ⊢
    refine Ev.congr (fun k => by rw [if_neg (by omega)]) ?_
    by_cases h10 : cur.length ≤ 10
    · rw [decide_eq_true h10, Bool.true_and, hall, Bool.true_and] at hr ⊢
      refine Ev.congr (fun k => by rw [if_neg (by omega)]) ?_
      have hh := head_bt (ba cur) (by rw [size_ba]; exact hpos)
      rw [L_ba] at hh
      have go : (decide (1 < cur.length) && decide (cur.head? = some 48)) = false → Ev (fun k => certpathref01_arcs.j2 k s out i (ba cur) ((out.length : Int) == 12)) (if (!(decide (1 < cur.length) && decide (cur.head? = some 48)) && decide (val 0 cur ≤ 2147483647)) = true ∧ out.length ≠ 12 then r else ([], false)) := by
        intro hz
        rw [hz, Bool.not_false, Bool.true_and]
        rw [hz, Bool.not_false, Bool.true_and] at hr
        by_cases h12 : out.length = 12
        · rw [if_neg (fun h => h.2 h12), show ((out.length : Int) == 12) = true from beq_iff_eq.2 (by omega)]
          exact bad
        · rw [show ((out.length : Int) == 12) = false from beq_eq_false_iff_ne.2 (by omega)]
          refine Ev.step (fun k => by simp only [certpathref01_arcs.j2]; rw [if_neg (by decide)]) ?_
          have := val_loop s (ba cur) out i (by rw [size_ba]; exact h10) r (by omega) (by omega) ho (by rw [L_ba]; exact hall)
            (fun hv => by rw [L_ba] at hv ⊢; exact hr (decide_eq_true hv) h12) cur 0 0 (by rw [L_ba, List.drop_zero]) (by rw [size_ba]; omega) (by decide) (by decide) (by rw [L_ba]) hall
          refine cast_ev this ?_
          rw [L_ba]
          by_cases hv : val 0 cur ≤ 2147483647
          · rw [if_pos hv, if_pos ⟨decide_eq_true hv, h12⟩]
          · rw [if_neg hv, if_neg (fun h => hv (of_decide_eq_true h.1))]
      by_cases h1 : 1 < cur.length
      · rw [decide_eq_true h1, Bool.true_and] at go ⊢
        refine Ev.congr (fun k => by rw [if_pos (by omega), if_pos (by omega)]) ?_
        by_cases h48 : bt (ba cur) 0 = 48
        · rw [decide_eq_true h48] at hh
          rw [← hh, Bool.not_true, Bool.false_and, if_neg (by simp)]
          exact Ev.congr (fun k => by rw [if_pos h48]) bad
        · rw [decide_eq_false h48] at hh
          exact Ev.congr (fun k => by rw [if_neg h48]) (go hh.symm)
      · rw [decide_eq_false h1, Bool.false_and] at go ⊢
        exact Ev.congr (fun k => by rw [if_neg (by omega)]) (go rfl)
    · rw [decide_eq_false h10, Bool.false_and, if_neg (by simp)]
      exact Ev.congr (fun k => by rw [if_pos (by omega)]) bad
theorem spl_mem (c x : UInt8) (hx : x ≠ c) : ∀ l : List UInt8, x ∈ l → ∃ p ∈ spl c l, x ∈ p
  | [], h => by cases h
  | y :: ys, h => by
    rw [spl_cons]
    by_cases e : y = c
    · rw [if_pos e]
      simp only [List.mem_cons] at h
      rcases h with h | h
      · exact absurd (h.trans e) hx
      · obtain ⟨p, hp, h2⟩ := spl_mem c x hx ys h
        exact ⟨p, by simp [hp], h2⟩
    · rw [if_neg e]
      cases hq : spl c ys with
      | nil => exact absurd hq (spl_ne c ys)
      | cons q qs =>
        simp only [List.mem_cons] at h
        rcases h with h | h
        · exact ⟨y :: q, by simp, by simp [h]⟩
        · obtain ⟨p, hp, h2⟩ := spl_mem c x hx ys h
          rw [hq] at hp
          simp only [List.mem_cons] at hp
          rcases hp with hp | hp
          · exact ⟨y :: q, by simp, by simp [← hp, h2]⟩
          · exact ⟨p, by simp [hp], h2⟩
theorem dig_no46 (l : List UInt8) (h : l.all dig = true) : (46 : UInt8) ∉ l := fun hm => absurd (List.all_eq_true.1 h 46 hm) (by decide)
theorem rarcs_loop (s : ByteArray) (hs : s.size ≤ 100000) : ∀ (rest : List UInt8) (i a : Nat) (out : List Int) (cur : List UInt8), (L s).drop i = rest → i + rest.length = s.size → a ≤ i → cur = ((L s).drop a).take (i - a) → cur.all dig = true → out.length ≤ 12 → (∀ v ∈ out, 0 ≤ v) →
    Ev (fun k => certpathref01_arcs.l0 k s out a i) (refS out (spl 46 (cur ++ rest)))
  | [], i, a, out, cur, hd, hi, ha, hcur, hall, ho, hn => by
    have hi' : i = s.size := by simpa using hi
    rw [List.append_nil, spl_miss 46 cur (dig_no46 cur hall)]
    refine Ev.step (fun k => by simp only [certpathref01_arcs.l0]; rw [if_pos (by omega), if_neg (by omega)]) ?_
    refine cast_ev (piece s hs out a i ha (by omega) ho cur hcur hall (finS (out ++ [val 0 cur])) (fun hok h12 => fin_f s _ _ _ (by omega) ?_)) ?_
    · intro v hv
      rcases List.mem_append.1 hv with h | h
      · exact hn v h
      · obtain rfl := List.mem_singleton.1 h
        exact (okP_parts cur hok).2.2.2.2
    · unfold refS
      simp only [List.all_cons, List.all_nil, Bool.and_true, List.length_cons, List.length_nil, List.map_cons, List.map_nil]
      by_cases hc : okP cur = true ∧ out.length ≠ 12
      · rw [if_pos hc, if_pos ⟨hc.1, by have := hc.2; omega⟩]
      · rw [if_neg hc, if_neg (fun h => hc ⟨h.1, by omega⟩)]
  | b :: rest, i, a, out, cur, hd, hi, ha, hcur, hall, ho, hn => by
    obtain ⟨hb, hr, hlt⟩ := bt_b s i b rest hd
    have hlen : i + 1 + rest.length = s.size := by simp at hi; omega
    refine Ev.step (fun k => by simp only [certpathref01_arcs.l0]; rw [if_pos (by omega), if_pos (by omega), if_pos (by omega), hb]) ?_
    by_cases h46 : b = 46
    · subst h46
      have hne : (((46 : UInt8).toNat : Int) != 46) = false := by decide
      rw [hne, spl_hit 46 rest cur (dig_no46 cur hall)]
      have ih := fun (hok : okP cur = true) (h12 : out.length ≠ 12) => rarcs_loop s hs rest (i + 1) (i + 1) (out ++ [val 0 cur]) [] hr hlen (Nat.le_refl _) (by simp) rfl (by simp; omega) (by
        intro v hv
        rcases List.mem_append.1 hv with h | h
        · exact hn v h
        · obtain rfl := List.mem_singleton.1 h
          exact (okP_parts cur hok).2.2.2.2)
      refine cast_ev (piece s hs out a i ha (by omega) ho cur hcur hall (refS (out ++ [val 0 cur]) (spl 46 rest)) (fun hok h12 => by have := ih hok h12; rw [List.nil_append] at this; exact this)) ?_
      unfold refS
      have hp := List.length_pos_iff.2 (spl_ne 46 rest)
      simp only [List.all_cons, List.length_cons, List.map_cons, List.length_append, List.length_nil, List.append_assoc, List.cons_append, List.nil_append]
      by_cases hok : okP cur = true
      · by_cases h12 : out.length = 12
        · rw [if_neg (fun h => h.2 h12), if_neg (fun h => by omega)]
        · rw [if_pos ⟨hok, h12⟩, hok, Bool.true_and]
          by_cases hc : (spl 46 rest).all okP = true ∧ out.length + (0 + 1) + (spl 46 rest).length ≤ 12
          · rw [if_pos hc, if_pos ⟨hc.1, by omega⟩]
          · rw [if_neg hc, if_neg (fun h => hc ⟨h.1, by omega⟩)]
      · rw [if_neg (fun h => hok h.1), Bool.eq_false_iff.2 hok, Bool.false_and, if_neg (by simp)]
    · have hne : ((b.toNat : Int) != 46) = true := by
        rw [bne_iff_ne]
        intro e
        exact h46 ((byte_eq b 46 (by decide)).1 e)
      rw [hne]
      by_cases hdg : dig b = true
      · have hrg := dig_range b hdg
        have hcur2 : cur ++ [b] = ((L s).drop a).take (i + 1 - a) := by
          have hx : ((L s).drop a).drop (i - a) = b :: rest := by rw [List.drop_drop, show a + (i - a) = i by omega]; exact hd
          have hlt2 : i - a < ((L s).drop a).length := by
            rcases Nat.lt_or_ge (i - a) ((L s).drop a).length with h | h
            · exact h
            · rw [List.drop_eq_nil_of_le h] at hx; cases hx
          rw [show i + 1 - a = (i - a) + 1 by omega, List.take_succ_eq_append_getElem hlt2, ← hcur]
          rw [List.drop_eq_getElem_cons hlt2] at hx
          rw [(List.cons.inj hx).1]
        have ih := rarcs_loop s hs rest (i + 1) a out (cur ++ [b]) hr hlen (by omega) hcur2 (by rw [List.all_append, hall]; simp [hdg]) ho hn
        rw [List.append_assoc, List.singleton_append] at ih
        refine Ev.step (fun k => ?_) ih
        simp only [certpathref01_arcs.j1]
        rw [if_pos trivial, if_pos (by omega), if_pos (by omega), hb, if_neg (by omega), if_neg (by omega), w64 _ (by omega) (by omega)]
        rfl
      · have hbad : (spl 46 (cur ++ b :: rest)).all okP = false := by
          obtain ⟨p, hp, hx⟩ := spl_mem 46 b h46 (cur ++ b :: rest) (by simp)
          rw [Bool.eq_false_iff]
          intro h
          have := (okP_parts p (List.all_eq_true.1 h p hp)).2.2.1
          exact hdg (List.all_eq_true.1 this b hx)
        unfold refS
        rw [hbad, if_neg (by simp)]
        refine Ev.step (f := fun _ => some _) (fun k => ?_) (Ev.now _)
        simp only [certpathref01_arcs.j1]
        rw [if_pos trivial, if_pos (by omega), if_pos (by omega), hb]
        by_cases h48 : (b.toNat : Int) < 48
        · rw [if_pos h48]
        · have : ¬ (b.toNat ≤ 57) := fun h57 => hdg (by unfold dig; simp; omega)
          rw [if_neg h48, if_pos (by omega)]
def pairS (o : Option (List Int)) : List Int × Bool := match o with
  | some l => (l, true)
  | none => ([], false)
theorem arcs_r (s : ByteArray) (hs : s.size ≤ 100000) : Ev (fun k => certpathref01_arcs.f k s) (pairS (arcsS s)) := by
  refine cast_ev (rarcs_loop s hs (L s) 0 0 [] [] List.drop_zero (by rw [size_L]; omega) (Nat.le_refl _) (by simp) rfl (by simp) (by simp)) ?_
  rw [List.nil_append]
  unfold refS finS arcsS
  simp only [List.nil_append, List.length_nil, Nat.zero_add, List.length_map]
  by_cases hc : 2 ≤ (spl 46 (L s)).length ∧ (spl 46 (L s)).length ≤ 12 ∧ (spl 46 (L s)).all okP = true ∧ rootB (rd ((spl 46 (L s)).map (val 0)) 0) (rd ((spl 46 (L s)).map (val 0)) 1) = true
  · rw [if_pos hc, if_pos ⟨hc.2.2.1, hc.2.1⟩, if_pos ⟨hc.1, hc.2.2.2⟩]; rfl
  · rw [if_neg hc]
    by_cases h1 : (spl 46 (L s)).all okP = true ∧ (spl 46 (L s)).length ≤ 12
    · rw [if_pos h1, if_neg (fun h => hc ⟨h.1, h1.2, h1.1, h.2⟩)]; rfl
    · rw [if_neg h1]; rfl
theorem valid_r (s : ByteArray) (hs : s.size ≤ 100000) : Ev (fun k => certpathref01_ValidOID.f k s) (arcsS s).isSome := by
  refine Ev.bind (arcs_r s hs) ?_
  refine cast_ev (Ev.now _) ?_
  cases arcsS s <;> rfl
end Go.Proofs.YtcmmlemajlhjoaaDoor.Oid
