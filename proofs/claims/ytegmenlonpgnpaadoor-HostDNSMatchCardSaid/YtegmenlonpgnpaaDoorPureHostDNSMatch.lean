/- For all strings and all lists of numbers, the program's DNSMatch and DNSWithin agree with the document's definition (no condition beside the form's own). -/
import Derived.Test.YtegmenlonpgnpaaDoorQx26
import Derived.Test.YtegmenlonpgnpaaDoorHost
set_option linter.unusedVariables false
set_option linter.unusedSimpArgs false
namespace Go.Proofs.YtegmenlonpgnpaaDoor.Pure
open Go Go.RowKit Go.Proofs.YtegmenlonpgnpaaDoor.Q Go.Proofs.YtegmenlonpgnpaaDoorW.PrintWords Go.Proofs.YtegmenlonpgnpaaDoorW.PrintLast Go.Proofs.YtegmenlonpgnpaaDoorW.PrintMore Go.Proofs.YtegmenlonpgnpaaDoor.Num Go.Proofs.YtegmenlonpgnpaaDoor.Str Go.Proofs.YtegmenlonpgnpaaDoor.Host


theorem pieces_loop (l : List Int) (hl : l.length ≤ 140737488351232) (h8 : ∀ x ∈ l, (Lit.int .u8 x).wf = true) : ∀ (d i : Nat) (s : ByteArray), i + d = 24 → s.size ≤ 70 * i → ∃ r, Ev (fun k => certpathlaw08_pieces.l0 k l s i) r ∧ r.size ≤ 1700
  | 0, i, s, hd, hs => by
    refine ⟨s, Ev.step (f := fun _ => some s) (fun k => ?_) (Ev.now _), by omega⟩
    simp only [certpathlaw08_pieces.l0]
    by_cases c : (i : Int) < (l.length : Int)
    · rw [if_pos c, if_neg (by omega)]
    · rw [if_neg c]
  | d + 1, i, s, hd, hs => by
    by_cases c : (i : Int) < (l.length : Int)
    · have hm : 0 ≤ rd l i ∧ rd l i ≤ 255 := by
        have hx : rd l i ∈ l := by
          unfold rd
          rw [Int.toNat_natCast, List.getD_eq_getElem?_getD, List.getElem?_eq_getElem (by omega), Option.getD_some]
          exact List.getElem_mem _
        have := h8 _ hx
        simp [Lit.wf, IntKind.min, IntKind.max, IntKind.bits, IntKind.signed] at this; omega
      have hp : ∀ j : Int, 0 ≤ j → j < 22 → (rdOf ByteArray.empty [(⟨#[97]⟩ : ByteArray), (⟨#[66]⟩ : ByteArray), (⟨#[111, 114, 103]⟩ : ByteArray), (⟨#[101, 120, 97, 109, 112, 108, 101]⟩ : ByteArray), (⟨#[69, 88, 65, 77, 80, 76, 69]⟩ : ByteArray), (⟨#[46]⟩ : ByteArray), (⟨#[46]⟩ : ByteArray), (⟨#[46]⟩ : ByteArray), (⟨#[45]⟩ : ByteArray), (⟨#[42]⟩ : ByteArray), (⟨#[42, 46]⟩ : ByteArray), (⟨#[64]⟩ : ByteArray), (⟨#[64]⟩ : ByteArray), (⟨#[97, 110, 110]⟩ : ByteArray), (⟨#[97, 39, 98]⟩ : ByteArray), (⟨#[123]⟩ : ByteArray), (⟨#[48]⟩ : ByteArray), (⟨#[120, 45, 121]⟩ : ByteArray), (⟨#[46, 46]⟩ : ByteArray), (⟨#[95]⟩ : ByteArray), (⟨#[32]⟩ : ByteArray), (⟨#[97, 98, 99, 100, 101, 102, 103, 104, 105, 106, 107, 108, 109, 110, 111, 112, 113, 114, 115, 116, 117, 118, 119, 120, 121, 122, 97, 98, 99, 100, 101, 102, 103, 104, 105, 106, 107, 108, 109, 110, 111, 112, 113, 114, 115, 116, 117, 118, 119, 120, 121, 122, 48, 49, 50, 51, 52, 53, 54, 55, 56, 57]⟩ : ByteArray)] j).size ≤ 62 := by
        intro j h0 h1
        have hall : ∀ x ∈ [(⟨#[97]⟩ : ByteArray), (⟨#[66]⟩ : ByteArray), (⟨#[111, 114, 103]⟩ : ByteArray), (⟨#[101, 120, 97, 109, 112, 108, 101]⟩ : ByteArray), (⟨#[69, 88, 65, 77, 80, 76, 69]⟩ : ByteArray), (⟨#[46]⟩ : ByteArray), (⟨#[46]⟩ : ByteArray), (⟨#[46]⟩ : ByteArray), (⟨#[45]⟩ : ByteArray), (⟨#[42]⟩ : ByteArray), (⟨#[42, 46]⟩ : ByteArray), (⟨#[64]⟩ : ByteArray), (⟨#[64]⟩ : ByteArray), (⟨#[97, 110, 110]⟩ : ByteArray), (⟨#[97, 39, 98]⟩ : ByteArray), (⟨#[123]⟩ : ByteArray), (⟨#[48]⟩ : ByteArray), (⟨#[120, 45, 121]⟩ : ByteArray), (⟨#[46, 46]⟩ : ByteArray), (⟨#[95]⟩ : ByteArray), (⟨#[32]⟩ : ByteArray), (⟨#[97, 98, 99, 100, 101, 102, 103, 104, 105, 106, 107, 108, 109, 110, 111, 112, 113, 114, 115, 116, 117, 118, 119, 120, 121, 122, 97, 98, 99, 100, 101, 102, 103, 104, 105, 106, 107, 108, 109, 110, 111, 112, 113, 114, 115, 116, 117, 118, 119, 120, 121, 122, 48, 49, 50, 51, 52, 53, 54, 55, 56, 57]⟩ : ByteArray)], x.size ≤ 62 := by decide
        refine hall _ ?_
        unfold rdOf
        rw [List.getD_eq_getElem?_getD, List.getElem?_eq_getElem (by simp; omega), Option.getD_some]
        exact List.getElem_mem _
      have hj := hp (rd l i % 22) (by omega) (by omega)
      generalize hz : rdOf ByteArray.empty [(⟨#[97]⟩ : ByteArray), (⟨#[66]⟩ : ByteArray), (⟨#[111, 114, 103]⟩ : ByteArray), (⟨#[101, 120, 97, 109, 112, 108, 101]⟩ : ByteArray), (⟨#[69, 88, 65, 77, 80, 76, 69]⟩ : ByteArray), (⟨#[46]⟩ : ByteArray), (⟨#[46]⟩ : ByteArray), (⟨#[46]⟩ : ByteArray), (⟨#[45]⟩ : ByteArray), (⟨#[42]⟩ : ByteArray), (⟨#[42, 46]⟩ : ByteArray), (⟨#[64]⟩ : ByteArray), (⟨#[64]⟩ : ByteArray), (⟨#[97, 110, 110]⟩ : ByteArray), (⟨#[97, 39, 98]⟩ : ByteArray), (⟨#[123]⟩ : ByteArray), (⟨#[48]⟩ : ByteArray), (⟨#[120, 45, 121]⟩ : ByteArray), (⟨#[46, 46]⟩ : ByteArray), (⟨#[95]⟩ : ByteArray), (⟨#[32]⟩ : ByteArray), (⟨#[97, 98, 99, 100, 101, 102, 103, 104, 105, 106, 107, 108, 109, 110, 111, 112, 113, 114, 115, 116, 117, 118, 119, 120, 121, 122, 97, 98, 99, 100, 101, 102, 103, 104, 105, 106, 107, 108, 109, 110, 111, 112, 113, 114, 115, 116, 117, 118, 119, 120, 121, 122, 48, 49, 50, 51, 52, 53, 54, 55, 56, 57]⟩ : ByteArray)] (rd l i % 22) = z at hj
      have hap : (s ++ z).size = s.size + z.size := ByteArray.size_append
      obtain ⟨r, hr, hrs⟩ := pieces_loop l hl h8 d (i + 1) (s ++ z) (by omega) (by omega)
      refine ⟨r, Ev.step (fun k => ?_) hr, hrs⟩
      simp only [certpathlaw08_pieces.l0]
      rw [if_pos c, if_pos (by omega), Option.bind_some, if_pos (by omega), Int.tmod_eq_emod_of_nonneg hm.1, if_pos (by omega), if_pos (by simp; omega), hz, if_pos (by omega), w64 _ (by omega) (by omega)]
      rfl
    · refine ⟨s, Ev.step (f := fun _ => some s) (fun k => ?_) (Ev.now _), by omega⟩
      simp only [certpathlaw08_pieces.l0]
      rw [if_neg c]
theorem pieces_any (l : List Int) (hl : l.length ≤ 140737488351232) (h8 : ∀ x ∈ l, (Lit.int .u8 x).wf = true) : ∃ r, Ev (fun k => certpathlaw08_pieces.f k l) r ∧ r.size ≤ 1700 := by
  obtain ⟨r, hr, hs⟩ := pieces_loop l hl h8 24 0 ⟨#[]⟩ (by omega) (by decide)
  exact ⟨r, hr, hs⟩

theorem dns_words (j : Int) (h0 : 0 ≤ j) (h1 : j < 5) : (rdOf ByteArray.empty [(⟨#[97]⟩ : ByteArray), (⟨#[98]⟩ : ByteArray), (⟨#[65]⟩ : ByteArray), (⟨#[111, 114, 103]⟩ : ByteArray), (⟨#[120, 45, 121]⟩ : ByteArray)] j).size ≤ 3 := by
  have hall : ∀ x ∈ [(⟨#[97]⟩ : ByteArray), (⟨#[98]⟩ : ByteArray), (⟨#[65]⟩ : ByteArray), (⟨#[111, 114, 103]⟩ : ByteArray), (⟨#[120, 45, 121]⟩ : ByteArray)], x.size ≤ 3 := by decide
  refine hall _ ?_
  unfold rdOf
  rw [List.getD_eq_getElem?_getD, List.getElem?_eq_getElem (by simp; omega), Option.getD_some]
  exact List.getElem_mem _
theorem dns_l0 (k : Nat) (l : List Int) (s : ByteArray) (i : Nat) : certpathlaw08_dns.l0 (k + 1) l s i = certpathlaw08_dns.j1 k l s i (decide ((i : Int) < (l.length : Int)) && decide ((i : Int) < 4)) := by
  simp only [certpathlaw08_dns.l0]
  by_cases c : (i : Int) < (l.length : Int)
  · rw [if_pos c, decide_eq_true c, Bool.true_and]
  · rw [if_neg c, decide_eq_false c, Bool.false_and]
theorem dns_loop8 (l : List Int) (hl : l.length ≤ 140737488351232) (h8 : ∀ x ∈ l, (Lit.int .u8 x).wf = true) : ∀ (d i : Nat) (s : ByteArray), i + d = 4 → s.size ≤ 5 * i → ∃ r, Ev (fun k => certpathlaw08_dns.l0 k l s i) r ∧ r.size ≤ 20
  | 0, i, s, hd, hs => by
    refine ⟨s, Ev.step (fun k => dns_l0 k l s i) (Ev.step (f := fun _ => some s) (fun k => ?_) (Ev.now _)), by omega⟩
    simp only [certpathlaw08_dns.j1]
    rw [if_neg (by simp; omega)]
  | d + 1, i, s, hd, hs => by
    by_cases c : (i : Int) < (l.length : Int)
    · have hm : 0 ≤ rd l i ∧ rd l i ≤ 255 := by
        have hx : rd l i ∈ l := by
          unfold rd
          rw [Int.toNat_natCast, List.getD_eq_getElem?_getD, List.getElem?_eq_getElem (by omega), Option.getD_some]
          exact List.getElem_mem _
        have := h8 _ hx
        simp [Lit.wf, IntKind.min, IntKind.max, IntKind.bits, IntKind.signed] at this; omega
      have hj := dns_words (rd l i % 5) (by omega) (by omega)
      generalize hz : rdOf ByteArray.empty [(⟨#[97]⟩ : ByteArray), (⟨#[98]⟩ : ByteArray), (⟨#[65]⟩ : ByteArray), (⟨#[111, 114, 103]⟩ : ByteArray), (⟨#[120, 45, 121]⟩ : ByteArray)] (rd l i % 5) = z at hj
      have hb : (decide ((i : Int) < (l.length : Int)) && decide ((i : Int) < 4)) = true := by simp; omega
      by_cases e : s.toList = []
      · obtain ⟨r, hr, hrs⟩ := dns_loop8 l hl h8 d (i + 1) z (by omega) (by omega)
        refine ⟨r, Ev.step (fun k => dns_l0 k l s i) (Ev.step (fun k => ?_) hr), hrs⟩
        simp only [certpathlaw08_dns.j1]
        rw [if_pos hb, Option.bind_some, if_pos (by omega), if_pos c, Int.tmod_eq_emod_of_nonneg hm.1, if_pos (by omega), if_pos (by simp; omega), if_pos e, hz, w64 _ (by omega) (by omega)]
        rfl
      · have h1 : (z ++ (⟨#[46]⟩ : ByteArray)).size = z.size + 1 := by rw [ByteArray.size_append]; rfl
        have h2 : ((z ++ (⟨#[46]⟩ : ByteArray)) ++ s).size = z.size + 1 + s.size := by rw [ByteArray.size_append, h1]
        obtain ⟨r, hr, hrs⟩ := dns_loop8 l hl h8 d (i + 1) ((z ++ (⟨#[46]⟩ : ByteArray)) ++ s) (by omega) (by omega)
        refine ⟨r, Ev.step (fun k => dns_l0 k l s i) (Ev.step (fun k => ?_) hr), hrs⟩
        simp only [certpathlaw08_dns.j1]
        rw [if_pos hb, Option.bind_some, if_pos (by omega), if_pos c, Int.tmod_eq_emod_of_nonneg hm.1, if_pos (by omega), if_pos (by simp; omega), if_neg e, hz, if_pos (by omega), if_pos (by omega), w64 _ (by omega) (by omega)]
        rfl
    · refine ⟨s, Ev.step (fun k => dns_l0 k l s i) (Ev.step (f := fun _ => some s) (fun k => ?_) (Ev.now _)), by omega⟩
      simp only [certpathlaw08_dns.j1]
      rw [if_neg (by simp; omega)]
theorem dns_any (l : List Int) (hl : l.length ≤ 140737488351232) (h8 : ∀ x ∈ l, (Lit.int .u8 x).wf = true) : ∃ r, Ev (fun k => certpathlaw08_dns.f k l) r ∧ r.size ≤ 20 := by
  obtain ⟨r, hr, hs⟩ := dns_loop8 l hl h8 4 0 ⟨#[]⟩ (by omega) (by decide)
  exact ⟨r, hr, hs⟩

theorem lab_star (l : List UInt8) (h : labU l = true) : (42 : UInt8) ∉ l := by
  intro hm
  unfold labU Hand.labelB at h
  simp only [Bool.and_eq_true] at h
  have h2 := h.2
  rw [all_bytes, L_ba, List.all_eq_true] at h2
  exact absurd (h2 42 hm) (by decide)
theorem dns_nostar (s : ByteArray) (h : dnsS s = true) : (42 : UInt8) ∉ L s := by
  intro hm
  unfold dnsS at h
  rw [Bool.and_eq_true] at h
  obtain ⟨p, hp, hx⟩ := spl_mem 46 42 (by decide) (L s) hm
  exact lab_star p (List.all_eq_true.1 h.2 p hp) hx
theorem low42 (b : UInt8) (h : lowB b = 42) : b = 42 := by
  have hall : ∀ n : Fin 256, lowB (UInt8.ofNat n.val) = 42 → UInt8.ofNat n.val = 42 := by decide +kernel
  have e : UInt8.ofNat b.toNat = b := by simp
  have := hall ⟨b.toNat, b.toNat_lt⟩
  simp only [e] at this
  exact this h
theorem head_star : ∀ (l : List UInt8) (h : 0 < l.length), l[0] = UInt8.ofNat 42 ↔ ∃ b, l = 42 :: b
  | [], h => absurd h (by decide)
  | x :: xs, h => by
    simp only [List.getElem_cons_zero]
    constructor
    · intro h; exact ⟨xs, by rw [h]; rfl⟩
    · rintro ⟨b, h⟩; exact (List.cons.inj h).1
theorem bt0_star (s : ByteArray) (hp : 0 < s.size) : bt s 0 = 42 ↔ ∃ b, L s = 42 :: b := by
  have hl : 0 < (L s).length := by rw [← size_L]; exact hp
  have := bt_get s 0 hl
  rw [show ((0 : Nat) : Int) = 0 from rfl] at this
  rw [this, show (42 : Int) = ((42 : Nat) : Int) from rfl, byte_eq _ 42 (by decide)]
  exact head_star _ hl
theorem dot_lowB : lowB 46 = 46 := by decide
/-- 'A pattern stands for a name'. -/
def dmS (p s : ByteArray) : Bool := patS p && (dnsS s && (if ([42, 46] : List UInt8).isPrefixOf (L p) = true then (match cutL 46 (L s) with
  | some q => eqS (ba q.2) (ba ((L p).drop 2))
  | none => false) else eqS p s))
theorem star_ne (p s : ByteArray) (b : List UInt8) (hb : L p = 42 :: b) (h : dnsS s = true) : eqS p s = false := by
  unfold eqS
  rw [decide_eq_false_iff_not]
  intro e
  rw [lowL_map, lowL_map, hb, List.map_cons] at e
  cases hs : L s with
  | nil => rw [hs] at e; cases e
  | cons x xs =>
    rw [hs, List.map_cons] at e
    have := (List.cons.inj e).1
    have h42 : lowB 42 = 42 := by decide
    rw [h42] at this
    have hx := low42 x this.symm
    exact dns_nostar s h (by rw [hs, hx]; simp)
theorem dm_p (p s : ByteArray) (hp : p.size ≤ 90000) (hs : s.size ≤ 90000) : Ev (fun k => host_DNSMatch.f k p s) (dmS p s) := by
  unfold dmS
  refine Ev.bind (pat_p p (by omega)) ?_
  have bad : Ev (fun k => host_DNSMatch.j0 k p s true) false := Ev.step (f := fun _ => some false) (fun k => by simp only [host_DNSMatch.j0]; rw [if_pos trivial]) (Ev.now _)
  by_cases h1 : patS p = true
  · rw [h1, Bool.true_and]
    refine Ev.congr (fun k => by rw [if_pos rfl]) ?_
    refine Ev.bind (dns_p s) ?_
    by_cases h2 : dnsS s = true
    · rw [h2, Bool.true_and]
      refine Ev.step (f := fun _ => some _) (fun k => ?_) (Ev.now _)
      simp only [host_DNSMatch.j0]
      rw [if_neg (by decide), equal_p p s (by omega) (by omega), Option.bind_some, cutPrefix_f p _ (by omega)]
      by_cases hpre : ([42, 46] : List UInt8).isPrefixOf (L p) = true
      · obtain ⟨b, hb⟩ := (pre_star _).1 hpre
        rw [star_ne p s (46 :: b) hb h2, if_neg (by decide)]
        have e0 : L (⟨#[42, 46]⟩ : ByteArray) = [42, 46] := rfl
        rw [e0, if_pos hpre, if_pos hpre, Option.bind_some]
        have z2 : ((⟨#[42, 46]⟩ : ByteArray)).size = 2 := rfl
        rw [z2]
        rcases first_of 46 (L s) with hn | ⟨x, y, he, hn⟩
        · rw [cut_miss s (by omega) 46 hn, cutL_miss 46 _ hn, Option.bind_some]
          rw [if_pos rfl, if_neg (by simp)]
        · rw [cut_hit s (by omega) 46 x y he hn, he, cutL_hit 46 y x hn, Option.bind_some]
          have l1 : y.length ≤ 100000 := by have := size_L s; rw [he] at this; simp at this; omega
          have l2 : ((L p).drop 2).length ≤ 100000 := by rw [List.length_drop, ← size_L]; omega
          rw [if_pos rfl, if_pos rfl, equal_p _ _ (by rw [size_ba]; exact l1) (by rw [size_ba]; exact l2), Option.bind_some]
      · have e0 : L (⟨#[42, 46]⟩ : ByteArray) = [42, 46] := rfl
        rw [e0, if_neg hpre, if_neg hpre, Option.bind_some]
        by_cases he : eqS p s = true
        · rw [if_pos he, he]
        · rw [if_neg he, Bool.eq_false_iff.2 he]
          rcases first_of 46 (L s) with hn | ⟨x, y, he, hn⟩
          · rw [cut_miss s (by omega) 46 hn, Option.bind_some, if_neg (by simp)]
          · rw [cut_hit s (by omega) 46 x y he hn, Option.bind_some, if_neg (by simp)]
    · rw [Bool.eq_false_iff.2 h2, Bool.false_and]
      exact bad
  · rw [Bool.eq_false_iff.2 h1, Bool.false_and]
    exact Ev.congr (fun k => by rw [if_neg (by decide)]) bad
theorem eq_dot (x y : List UInt8) : eqS (ba (46 :: x)) (ba (46 :: y)) = eqS (ba x) (ba y) := by
  unfold eqS
  rw [lowL_map, lowL_map, lowL_map, lowL_map, L_ba, L_ba, L_ba, L_ba, List.map_cons, List.map_cons]
  simp
theorem dm_r (p s : ByteArray) (hp : p.size ≤ 90000) (hs : s.size ≤ 90000) : Ev (fun k => certpathref07_DNSMatch.f k p s) (dmS p s) := by
  unfold dmS
  refine Ev.bind (pat_r p (by omega)) ?_
  have bad : Ev (fun k => certpathref07_DNSMatch.j0 k p s true) false := Ev.step (f := fun _ => some false) (fun k => by simp only [certpathref07_DNSMatch.j0]; rw [if_pos trivial]) (Ev.now _)
  by_cases h1 : patS p = true
  · rw [h1, Bool.true_and]
    refine Ev.congr (fun k => by rw [if_pos rfl]) ?_
    refine Ev.bind (dns_r s) ?_
    by_cases h2 : dnsS s = true
    · rw [h2, Bool.true_and]
      have hpos : 0 < p.size := by
        rw [size_L]
        unfold patS at h1
        by_cases hpre : ([42, 46] : List UInt8).isPrefixOf (L p) = true
        · obtain ⟨b, hb⟩ := (pre_star _).1 hpre
          rw [hb]; simp
        · rw [if_neg hpre] at h1
          exact List.length_pos_iff.2 (dns_ne p h1)
      by_cases hpre : ([42, 46] : List UInt8).isPrefixOf (L p) = true
      · obtain ⟨b, hb⟩ := (pre_star _).1 hpre
        refine Ev.step (fun k => by
          simp only [certpathref07_DNSMatch.j0]
          rw [if_neg (by decide), if_pos (by omega), if_pos ((bt0_star p hpos).2 ⟨_, hb⟩)]) ?_
        refine Ev.bind (rsplit s (by omega) 46) ?_
        refine Ev.congr (f := fun _ => some _) (fun k => ?_) (Ev.now _)
        rw [if_pos hpre]
        have hpl : p.size = b.length + 2 := by rw [size_L, hb]; rfl
        have hl0 : 0 < ((spl 46 (L s)).map ba).length := by rw [List.length_map]; exact List.length_pos_iff.2 (spl_ne 46 _)
        rw [if_pos (by omega)]
        rcases first_of 46 (L s) with hn | ⟨x, y, he, hn⟩
        · have e1 : rdOf ByteArray.empty ((spl 46 (L s)).map ba) 0 = s := by rw [spl_miss 46 _ hn]; show ba (L s) = s; exact ba_L s
          rw [e1, if_neg (by omega), cutL_miss 46 _ hn]
        · have e1 : rdOf ByteArray.empty ((spl 46 (L s)).map ba) 0 = ba x := by rw [he, spl_hit 46 y x hn]; rfl
          have hsl : s.size = x.length + (y.length + 1) := by rw [size_L, he]; simp
          rw [e1, size_ba, if_pos (by omega), if_pos (by omega), if_pos (by omega), if_pos (by omega), Int.toNat_natCast, he, cutL_hit 46 y x hn]
          have e2 : s.extract x.length s.size = ba (46 :: y) := ext_L (by rw [L_from, he, L_ba, List.drop_left' rfl])
          have e3 : p.extract 1 p.size = ba (46 :: b) := ext_L (by rw [L_from, hb, L_ba]; rfl)
          rw [e2, e3, alike_r _ _ (by rw [size_ba, List.length_cons]; omega) (by rw [size_ba, List.length_cons]; omega), Option.bind_some, eq_dot, hb]
          rfl
      · rw [if_neg hpre]
        have hn : ¬ bt p 0 = 42 := by
          intro e
          obtain ⟨b, hb⟩ := (bt0_star p hpos).1 e
          unfold patS at h1
          rw [if_neg hpre] at h1
          exact dns_nostar p h1 (by rw [hb]; simp)
        refine Ev.step (f := fun _ => some _) (fun k => ?_) (Ev.now _)
        simp only [certpathref07_DNSMatch.j0]
        rw [if_neg (by decide), if_pos (by omega), if_neg hn, alike_r p s (by omega) (by omega), Option.bind_some]
    · rw [Bool.eq_false_iff.2 h2, Bool.false_and]
      exact bad
  · rw [Bool.eq_false_iff.2 h1, Bool.false_and]
    exact Ev.congr (fun k => by rw [if_neg (by decide)]) bad

theorem law_loop (xs : List S29) (hx : ∀ x ∈ xs, x.f0.size ≤ 80000 ∧ x.f1.size ≤ 80000) (hl : xs.length < 100) : ∀ (d : Nat) (i : Int), 0 ≤ i → (xs.length : Int) - i = d →
    Ev (fun k => certpathlaw08_HostDNSMatch.l0 k xs xs.length i) true
  | 0, i, h0, hd => by
    refine Ev.step (f := fun k => _) (fun k => by simp only [certpathlaw08_HostDNSMatch.l0]; rw [if_neg (by omega)]) ?_
    exact Ev.bind awake_true (Ev.now _)
  | d + 1, i, h0, hd => by
    have hs : (rd_T29 xs i).f0.size ≤ 80000 ∧ (rd_T29 xs i).f1.size ≤ 80000 := by
      refine hx _ ?_
      unfold rd_T29
      rw [List.getD_eq_getElem?_getD, List.getElem?_eq_getElem (by omega)]
      exact List.getElem_mem _
    generalize hxe : rd_T29 xs i = x at hs
    obtain ⟨p, s⟩ := x
    obtain ⟨h1, h2⟩ := hs
    have h1' : p.size ≤ 80000 := h1
    have h2' : s.size ≤ 80000 := h2
    refine Ev.step (fun k => by simp only [certpathlaw08_HostDNSMatch.l0]; rw [if_pos (by omega), if_pos h0, if_pos (by omega), w64 (i + 1) (by omega) (by omega), hxe]) ?_
    refine Ev.bind (dm_p p s (by omega) (by omega)) (Ev.bind (dm_r p s (by omega) (by omega)) ?_)
    rw [bne_self_eq_false]
    refine Ev.congr (fun k => by rw [if_neg (by decide)]) ?_
    refine Ev.bind (dw_p p s (by omega) (by omega)) (Ev.bind (dw_r p s (by omega) (by omega)) ?_)
    rw [bne_self_eq_false]
    refine Ev.congr (fun k => by rw [if_neg (by decide)]) ?_
    exact law_loop xs hx hl d (i + 1) (by omega) (by omega)
theorem low_size (s : ByteArray) : (Hand.lowS s).size = s.size := lowS_size s
theorem sz_app (a b : ByteArray) (n m : Nat) (ha : a.size ≤ n) (hb : b.size ≤ m) : (a ++ b).size ≤ n + m := by rw [ByteArray.size_append]; omega
theorem j1_true (s t : ByteArray) (l m : List Int) (hs : s.size ≤ 200) (ht : t.size ≤ 200) (hl : l.length ≤ 140737488351232) (h8 : ∀ x ∈ l, (Lit.int .u8 x).wf = true) (hm : m.length ≤ 140737488351232) (m8 : ∀ x ∈ m, (Lit.int .u8 x).wf = true)
    (a b : ByteArray) (ha : a.size ≤ 100) (hb : b.size ≤ 100) : Ev (fun k => certpathlaw08_HostDNSMatch.j1 k s t l m a b) true := by
  obtain ⟨p, hp, hps⟩ := pieces_any l hl h8
  obtain ⟨q, hq, hqs⟩ := pieces_any m hm m8
  refine Ev.step (fun k => by simp only [certpathlaw08_HostDNSMatch.j1]; rw [if_pos (by omega), if_pos (by omega)]) ?_
  refine Ev.bind hp (Ev.bind hq ?_)
  refine Ev.congr (fun k => by rw [low_r a (by omega), Option.bind_some, Option.bind_some]) ?_
  refine law_loop _ ?_ (by simp) 11 0 (by omega) (by simp)
  intro x hx
  simp only [List.mem_cons, List.not_mem_nil, or_false] at hx
  have z : (ByteArray.mk #[]).size = 0 := rfl
  have c1 : ((⟨#[120, 46]⟩ : ByteArray) ++ b).size ≤ 2 + 100 := sz_app _ _ 2 100 (by decide) hb
  have c2 : ((⟨#[121, 46]⟩ : ByteArray) ++ b).size ≤ 2 + 100 := sz_app _ _ 2 100 (by decide) hb
  have c3 : ((⟨#[121]⟩ : ByteArray) ++ b).size ≤ 1 + 100 := sz_app _ _ 1 100 (by decide) hb
  have c4 := low_size a
  rcases hx with rfl | rfl | rfl | rfl | rfl | rfl | rfl | rfl | rfl | rfl | rfl <;> refine ⟨?_, ?_⟩ <;> (dsimp only; first | omega | (show (0 : Nat) ≤ _; omega))
theorem HostDNSMatch : certpathlaw08_HostDNSMatch.Pure := by
  intro s t l m star hs ht _ hl h8 _ hm m8
  apply Ev.rounds
  have bad : Ev (fun k => certpathlaw08_HostDNSMatch.j0 k s t l m star true) true := by
    refine Ev.step (fun k => by simp only [certpathlaw08_HostDNSMatch.j0]; rw [if_pos trivial]) ?_
    exact Ev.bind awake_true (Ev.now _)
  unfold certpathlaw08_HostDNSMatch.f
  by_cases h : (s.size : Int) > 200
  · exact Ev.congr (fun k => by rw [if_pos h]) bad
  · refine Ev.congr (fun k => by rw [if_neg h]) ?_
    by_cases h2 : (t.size : Int) > 200
    · rw [decide_eq_true h2]; exact bad
    · rw [decide_eq_false h2]
      obtain ⟨a, ha, has⟩ := dns_any l (by omega) h8
      obtain ⟨b, hb, hbs⟩ := dns_any m (by omega) m8
      refine Ev.step (fun k => by simp only [certpathlaw08_HostDNSMatch.j0]; rw [if_neg (by decide)]) ?_
      refine Ev.bind ha (Ev.bind hb ?_)
      cases star with
      | true =>
        refine Ev.congr (fun k => by rw [if_pos rfl, if_pos (by omega)]) ?_
        exact j1_true s t l m (by omega) (by omega) (by omega) h8 (by omega) m8 _ b (by have := sz_app (⟨#[42, 46]⟩ : ByteArray) a 2 20 (by decide) has; omega) (by omega)
      | false =>
        refine Ev.congr (fun k => by rw [if_neg (by decide)]) ?_
        exact j1_true s t l m (by omega) (by omega) (by omega) h8 (by omega) m8 a b (by omega) (by omega)

end Go.Proofs.YtegmenlonpgnpaaDoor.Pure
