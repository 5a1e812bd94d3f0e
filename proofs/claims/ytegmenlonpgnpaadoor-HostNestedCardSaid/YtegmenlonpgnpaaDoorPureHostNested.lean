/- For all lists of numbers: two bases that have a name in common are nested, at the names and networks that the law makes (no condition beside the form's own). -/
import Derived.Test.YtegmenlonpgnpaaDoorRx11
import Derived.Test.YtegmenlonpgnpaaDoorHostR
import Derived.Test.YtegmenlonpgnpaaDoorNetWR
set_option linter.unusedVariables false
set_option linter.unusedSimpArgs false
namespace Go.Proofs.YtegmenlonpgnpaaDoor.Pure
open Go Go.RowKit Go.Proofs.YtegmenlonpgnpaaDoor.Q Go.Proofs.YtegmenlonpgnpaaDoorW.PrintWords Go.Proofs.YtegmenlonpgnpaaDoorW.PrintLast Go.Proofs.YtegmenlonpgnpaaDoorW.PrintMore Go.Proofs.YtegmenlonpgnpaaDoor.Num Go.Proofs.YtegmenlonpgnpaaDoor.Str Go.Proofs.YtegmenlonpgnpaaDoor.Host

theorem dns_words (j : Int) (h0 : 0 ≤ j) (h1 : j < 5) : (rdOf ByteArray.empty [(⟨#[97]⟩ : ByteArray), (⟨#[98]⟩ : ByteArray), (⟨#[65]⟩ : ByteArray), (⟨#[111, 114, 103]⟩ : ByteArray), (⟨#[120, 45, 121]⟩ : ByteArray)] j).size ≤ 3 := by
  have hall : ∀ x ∈ [(⟨#[97]⟩ : ByteArray), (⟨#[98]⟩ : ByteArray), (⟨#[65]⟩ : ByteArray), (⟨#[111, 114, 103]⟩ : ByteArray), (⟨#[120, 45, 121]⟩ : ByteArray)], x.size ≤ 3 := by decide
  refine hall _ ?_
  unfold rdOf
  rw [List.getD_eq_getElem?_getD, List.getElem?_eq_getElem (by simp; omega), Option.getD_some]
  exact List.getElem_mem _
theorem dns_l0 (k : Nat) (l : List Int) (s : ByteArray) (i : Nat) : certpathlaw08_dns.l0 (k + 1) l s i = certpathlaw08_dns.j1 k l s i (decide ((i : Int) < (l.length : Int)) && decide ((i : Int) < 4)) := by
  simp only [certpathlaw08_dns.l0]
  by_cases c : (i : Int) < (l.length : Int)
  · rw [if_pos c, decide_eq_true c, Bool.true_and]
  · rw [if_neg c, decide_eq_false c, Bool.false_and]
theorem dns_loop8 (l : List Int) (hl : l.length ≤ 140737488351232) (h8 : ∀ x ∈ l, (Lit.int .u8 x).wf = true) : ∀ (d i : Nat) (s : ByteArray), i + d = 4 → s.size ≤ 5 * i → ∃ r, Ev (fun k => certpathlaw08_dns.l0 k l s i) r ∧ r.size ≤ 20
  | 0, i, s, hd, hs => by
    refine ⟨s, Ev.step (fun k => dns_l0 k l s i) (Ev.step (f := fun _ => some s) (fun k => ?_) (Ev.now _)), by omega⟩
    simp only [certpathlaw08_dns.j1]
    rw [if_neg (by simp; omega)]
  | d + 1, i, s, hd, hs => by
    by_cases c : (i : Int) < (l.length : Int)
    · have hm : 0 ≤ rd l i ∧ rd l i ≤ 255 := by
        have hx : rd l i ∈ l := by
          unfold rd
          rw [Int.toNat_natCast, List.getD_eq_getElem?_getD, List.getElem?_eq_getElem (by omega), Option.getD_some]
          exact List.getElem_mem _
        have := h8 _ hx
        simp [Lit.wf, IntKind.min, IntKind.max, IntKind.bits, IntKind.signed] at this; omega
      have hj := dns_words (rd l i % 5) (by omega) (by omega)
      generalize hz : rdOf ByteArray.empty [(⟨#[97]⟩ : ByteArray), (⟨#[98]⟩ : ByteArray), (⟨#[65]⟩ : ByteArray), (⟨#[111, 114, 103]⟩ : ByteArray), (⟨#[120, 45, 121]⟩ : ByteArray)] (rd l i % 5) = z at hj
      have hb : (decide ((i : Int) < (l.length : Int)) && decide ((i : Int) < 4)) = true := by simp; omega
      by_cases e : s.toList = []
      · obtain ⟨r, hr, hrs⟩ := dns_loop8 l hl h8 d (i + 1) z (by omega) (by omega)
        refine ⟨r, Ev.step (fun k => dns_l0 k l s i) (Ev.step (fun k => ?_) hr), hrs⟩
        simp only [certpathlaw08_dns.j1]
        rw [if_pos hb, Option.bind_some, if_pos (by omega), if_pos c, Int.tmod_eq_emod_of_nonneg hm.1, if_pos (by omega), if_pos (by simp; omega), if_pos e, hz, w64 _ (by omega) (by omega)]
        rfl
      · have h1 : (z ++ (⟨#[46]⟩ : ByteArray)).size = z.size + 1 := by rw [ByteArray.size_append]; rfl
        have h2 : ((z ++ (⟨#[46]⟩ : ByteArray)) ++ s).size = z.size + 1 + s.size := by rw [ByteArray.size_append, h1]
        obtain ⟨r, hr, hrs⟩ := dns_loop8 l hl h8 d (i + 1) ((z ++ (⟨#[46]⟩ : ByteArray)) ++ s) (by omega) (by omega)
        refine ⟨r, Ev.step (fun k => dns_l0 k l s i) (Ev.step (fun k => ?_) hr), hrs⟩
        simp only [certpathlaw08_dns.j1]
        rw [if_pos hb, Option.bind_some, if_pos (by omega), if_pos c, Int.tmod_eq_emod_of_nonneg hm.1, if_pos (by omega), if_pos (by simp; omega), if_neg e, hz, if_pos (by omega), if_pos (by omega), w64 _ (by omega) (by omega)]
        rfl
    · refine ⟨s, Ev.step (fun k => dns_l0 k l s i) (Ev.step (f := fun _ => some s) (fun k => ?_) (Ev.now _)), by omega⟩
      simp only [certpathlaw08_dns.j1]
      rw [if_neg (by simp; omega)]
theorem dns_any (l : List Int) (hl : l.length ≤ 140737488351232) (h8 : ∀ x ∈ l, (Lit.int .u8 x).wf = true) : ∃ r, Ev (fun k => certpathlaw08_dns.f k l) r ∧ r.size ≤ 20 := by
  obtain ⟨r, hr, hs⟩ := dns_loop8 l hl h8 4 0 ⟨#[]⟩ (by omega) (by decide)
  exact ⟨r, hr, hs⟩

theorem low46 (b : UInt8) : lowB b = 46 ↔ b = 46 := by
  have hb := b.toNat_lt
  unfold lowB Hand.low
  constructor
  · intro h
    have h2 := congrArg UInt8.toNat h
    rw [UInt8.toNat_ofNat'] at h2
    apply UInt8.toNat_inj.1
    split at h2
    · exfalso
      have : ((b.toNat : Int) + 32).toNat = b.toNat + 32 := by omega
      rw [this] at h2
      have e : (46 : UInt8).toNat = 46 := rfl
      omega
    · rw [Int.toNat_natCast] at h2
      have e : (46 : UInt8).toNat = 46 := rfl
      omega
  · rintro rfl; rfl
theorem eqS_iff (a b : ByteArray) : eqS a b = true ↔ lowL a = lowL b := by unfold eqS; exact decide_eq_true_iff
theorem endsS_iff (a b : ByteArray) : endsS a b = true ↔ lowL b <:+ lowL a := by
  unfold endsS
  rw [Bool.and_eq_true, decide_eq_true_iff, decide_eq_true_iff, List.suffix_iff_eq_drop, lowL_length, lowL_length]
  constructor
  · rintro ⟨_, h⟩; exact h.symm
  · intro h
    refine ⟨?_, h.symm⟩
    have := congrArg List.length h
    rw [List.length_drop, lowL_length, lowL_length] at this
    omega
theorem lowL_dot (s : ByteArray) : lowL (dot s) = 46 :: lowL s := by rw [lowL_map, L_dot, List.map_cons, ← lowL_map]; rfl
theorem lowL_nil (s : ByteArray) : lowL s = [] ↔ L s = [] := by rw [lowL_map, List.map_eq_nil_iff]
def dwR (s base : ByteArray) : Prop := L base = [] ∨ lowL s = lowL base ∨ (46 :: lowL base) <:+ lowL s
theorem dwS_iff (s base : ByteArray) : dwS s base = true ↔ (L s = [] ∨ patS s = true) ∧ baseS base = true ∧ dwR s base := by
  unfold dwS dwR
  simp only [Bool.and_eq_true, Bool.or_eq_true, decide_eq_true_iff, eqS_iff, endsS_iff, lowL_dot]
theorem dw_trans (a b c : ByteArray) (h1 : dwS a b = true) (h2 : dwS b c = true) : dwS a c = true := by
  rw [dwS_iff] at h1 h2 ⊢
  obtain ⟨ha, hb, r1⟩ := h1
  obtain ⟨_, hc, r2⟩ := h2
  refine ⟨ha, hc, ?_⟩
  unfold dwR at *
  rcases r2 with r2 | r2 | r2
  · exact .inl r2
  · rcases r1 with r1 | r1 | r1
    · refine .inl ((lowL_nil c).1 ?_)
      rw [← r2]; exact (lowL_nil b).2 r1
    · exact .inr (.inl (r1.trans r2))
    · exact .inr (.inr (r2 ▸ r1))
  · rcases r1 with r1 | r1 | r1
    · exfalso
      rw [(lowL_nil b).2 r1] at r2
      have := r2.length_le
      simp at this
    · exact .inr (.inr (r1 ▸ r2))
    · exact .inr (.inr (r2.trans ((List.suffix_cons _ _).trans r1)))
def inR (d base : ByteArray) : Prop := lowL d = lowL base ∨ (bt base 0 = 46 ∧ lowL base <:+ lowL d)
theorem inS_iff (d base : ByteArray) : inS d base = true ↔ inR d base := by
  unfold inS inR
  simp only [Bool.and_eq_true, Bool.or_eq_true, decide_eq_true_iff, eqS_iff, endsS_iff]
theorem point_low (s : ByteArray) : bt s 0 = 46 ↔ ∃ r, lowL s = 46 :: r := by
  by_cases hz : 0 < s.size
  · rw [bt0_point s hz, lowL_map]
    constructor
    · rintro ⟨b, h⟩; exact ⟨b.map lowB, by rw [h]; rfl⟩
    · rintro ⟨r, h⟩
      cases e : L s with
      | nil => rw [e] at h; cases h
      | cons x xs =>
        rw [e, List.map_cons] at h
        injection h with h1 h2
        rw [low46] at h1
        exact ⟨xs, by rw [h1]⟩
  · have e : L s = [] := List.eq_nil_of_length_eq_zero (by rw [← size_L]; omega)
    constructor
    · intro h
      rw [bt_L, e] at h
      exact absurd h (by decide)
    · rintro ⟨r, h⟩
      rw [lowL_map, e] at h; cases h
theorem inR_low {d d' base : ByteArray} (h : lowL d = lowL d') (r : inR d' base) : inR d base := by
  unfold inR at *
  rw [h]; exact r
theorem in_trans {d y z : ByteArray} (h1 : inR d y) (h2 : inR y z) : inR d z := by
  rcases h1 with h1 | ⟨p1, s1⟩
  · exact inR_low h1 h2
  · unfold inR
    rcases h2 with h2 | ⟨p2, s2⟩
    · refine .inr ⟨?_, h2 ▸ s1⟩
      rw [point_low] at p1 ⊢
      rw [← h2]; exact p1
    · exact .inr ⟨p2, s2.trans s1⟩
theorem withinS_iff (s base : ByteArray) : withinS s base = true ↔ mbS base = true ∧ mbS s = true ∧ (if mailS base = true then matchS s base = true else inR (behindS s) base) := by
  unfold withinS
  rw [Bool.and_eq_true, Bool.and_eq_true]
  split
  · exact Iff.rfl
  · rw [inS_iff]
theorem match_iff (a b : ByteArray) : matchS a b = true ↔ ∃ p q, partsS a = some p ∧ partsS b = some q ∧ p.1 = q.1 ∧ lowL (ba p.2) = lowL (ba q.2) := by
  unfold matchS
  cases partsS a with
  | none => simp
  | some p =>
    cases partsS b with
    | none => simp
    | some q => simp [eqS_iff]
theorem behind_mail (s : ByteArray) (p : List UInt8 × List UInt8) (h : partsS s = some p) : behindS s = ba p.2 := by
  obtain ⟨e1, n1, _⟩ := parts_cut s p h
  unfold behindS; rw [e1, cutL_hit 64 p.2 p.1 n1]
theorem behind_no (s : ByteArray) (h : mbS s = true) (hm : mailS s = false) : behindS s = s := by
  unfold behindS; rw [cutL_miss 64 _ (mb_at s h hm)]
theorem within_trans (x y z : ByteArray) (h1 : withinS x y = true) (h2 : withinS y z = true) : withinS x z = true := by
  rw [withinS_iff] at h1 h2 ⊢
  obtain ⟨my, mx, r1⟩ := h1
  obtain ⟨mz, _, r2⟩ := h2
  refine ⟨mz, mx, ?_⟩
  by_cases hz : mailS z = true
  · rw [if_pos hz] at r2 ⊢
    rw [match_iff] at r2 ⊢
    obtain ⟨q, r, hq, hr, e1, e2⟩ := r2
    have hy : mailS y = true := by unfold mailS; rw [hq]; rfl
    rw [if_pos hy, match_iff] at r1
    obtain ⟨p, q', hp, hq', e3, e4⟩ := r1
    rw [hq] at hq'
    obtain rfl := Option.some.inj hq'
    exact ⟨p, r, hp, hr, e3.trans e1, e4.trans e2⟩
  · rw [if_neg hz] at r2 ⊢
    by_cases hy : mailS y = true
    · rw [if_pos hy, match_iff] at r1
      obtain ⟨p, q, hp, hq, e1, e2⟩ := r1
      rw [behind_mail y q hq] at r2
      rw [behind_mail x p hp]
      exact inR_low e2 r2
    · rw [if_neg hy] at r1
      rw [behind_no y my (Bool.eq_false_iff.2 hy)] at r2
      exact in_trans r1 r2

theorem suffix_cmp {α : Type} (a b c : List α) (h1 : a <:+ c) (h2 : b <:+ c) : a <:+ b ∨ b <:+ a := by
  rw [List.suffix_iff_eq_drop] at h1 h2
  have l1 : a.length ≤ c.length := by rw [h1, List.length_drop]; omega
  have l2 : b.length ≤ c.length := by rw [h2, List.length_drop]; omega
  by_cases h : a.length ≤ b.length
  · refine .inl (List.suffix_iff_eq_drop.2 ?_)
    rw [h2, List.drop_drop, List.length_drop]
    have e : c.length - b.length + (c.length - (c.length - b.length) - a.length) = c.length - a.length := by omega
    rw [e]; exact h1
  · refine .inr (List.suffix_iff_eq_drop.2 ?_)
    rw [h1, List.drop_drop, List.length_drop]
    have e : c.length - a.length + (c.length - (c.length - a.length) - b.length) = c.length - b.length := by omega
    rw [e]; exact h2
theorem dns_pat (s : ByteArray) (h : dnsS s = true) : patS s = true := by
  unfold patS
  rw [if_neg, h]
  intro hp
  obtain ⟨b, hb⟩ := (pre_star (L s)).1 hp
  rw [dns_star s b hb] at h; cases h
theorem base_pat (s : ByteArray) (h : baseS s = true) : L s = [] ∨ patS s = true := by
  unfold baseS at h
  rw [Bool.or_eq_true, decide_eq_true_iff] at h
  rcases h with h | h
  · exact .inl h
  · exact .inr (dns_pat s h)
theorem dw_nested (s x y : ByteArray) (h1 : dwS s x = true) (h2 : dwS s y = true) : dwS x y = true ∨ dwS y x = true := by
  rw [dwS_iff] at h1 h2
  obtain ⟨_, bx, r1⟩ := h1
  obtain ⟨_, by_, r2⟩ := h2
  have px := base_pat x bx
  have py := base_pat y by_
  unfold dwR at r1 r2
  rcases r1 with r1 | r1 | r1
  · exact .inr ((dwS_iff y x).2 ⟨py, bx, .inl r1⟩)
  · rcases r2 with r2 | r2 | r2
    · exact .inl ((dwS_iff x y).2 ⟨px, by_, .inl r2⟩)
    · exact .inl ((dwS_iff x y).2 ⟨px, by_, .inr (.inl (r1.symm.trans r2))⟩)
    · exact .inl ((dwS_iff x y).2 ⟨px, by_, .inr (.inr (r1 ▸ r2))⟩)
  · rcases r2 with r2 | r2 | r2
    · exact .inl ((dwS_iff x y).2 ⟨px, by_, .inl r2⟩)
    · exact .inr ((dwS_iff y x).2 ⟨py, bx, .inr (.inr (r2 ▸ r1))⟩)
    · rcases suffix_cmp _ _ _ r1 r2 with h | h
      · rcases List.suffix_cons_iff.1 h with h | h
        · exact .inl ((dwS_iff x y).2 ⟨px, by_, .inr (.inl (List.cons.inj h).2)⟩)
        · exact .inr ((dwS_iff y x).2 ⟨py, bx, .inr (.inr h)⟩)
      · rcases List.suffix_cons_iff.1 h with h | h
        · exact .inl ((dwS_iff x y).2 ⟨px, by_, .inr (.inl (List.cons.inj h).2.symm)⟩)
        · exact .inl ((dwS_iff x y).2 ⟨px, by_, .inr (.inr h)⟩)
theorem in_nested (d x y : ByteArray) (h1 : inR d x) (h2 : inR d y) : inR x y ∨ inR y x := by
  unfold inR at *
  rcases h1 with h1 | ⟨p1, s1⟩
  · left
    rw [← h1]; exact h2
  · rcases h2 with h2 | ⟨p2, s2⟩
    · right
      rw [← h2]; exact .inr ⟨p1, s1⟩
    · rcases suffix_cmp _ _ _ s1 s2 with h | h
      · exact .inr (.inr ⟨p1, h⟩)
      · exact .inl (.inr ⟨p2, h⟩)
theorem within_nested (m x y : ByteArray) (h1 : withinS m x = true) (h2 : withinS m y = true) : withinS x y = true ∨ withinS y x = true := by
  rw [withinS_iff] at h1 h2
  obtain ⟨bx, _, r1⟩ := h1
  obtain ⟨by_, _, r2⟩ := h2
  by_cases hx : mailS x = true
  · rw [if_pos hx, match_iff] at r1
    obtain ⟨p, q, hp, hq, e1, e2⟩ := r1
    refine .inl ((withinS_iff x y).2 ⟨by_, bx, ?_⟩)
    by_cases hy : mailS y = true
    · rw [if_pos hy, match_iff] at r2 ⊢
      obtain ⟨p', r, hp', hr, e3, e4⟩ := r2
      rw [hp] at hp'
      obtain rfl := Option.some.inj hp'
      exact ⟨q, r, hq, hr, e1.symm.trans e3, e2.symm.trans e4⟩
    · rw [if_neg hy] at r2 ⊢
      rw [behind_mail m p hp] at r2
      rw [behind_mail x q hq]
      exact inR_low e2.symm r2
  · rw [if_neg hx] at r1
    by_cases hy : mailS y = true
    · rw [if_pos hy, match_iff] at r2
      obtain ⟨p, q, hp, hq, e1, e2⟩ := r2
      refine .inr ((withinS_iff y x).2 ⟨bx, by_, ?_⟩)
      rw [if_neg hx, behind_mail y q hq]
      rw [behind_mail m p hp] at r1
      exact inR_low e2.symm r1
    · rw [if_neg hy] at r2
      rcases in_nested _ _ _ r1 r2 with h | h
      · refine .inl ((withinS_iff x y).2 ⟨by_, bx, ?_⟩)
        rw [if_neg hy, behind_no x bx (Bool.eq_false_iff.2 hx)]; exact h
      · refine .inr ((withinS_iff y x).2 ⟨bx, by_, ?_⟩)
        rw [if_neg hx, behind_no y by_ (Bool.eq_false_iff.2 hy)]; exact h
theorem pnt (s : ByteArray) : ((⟨#[46]⟩ : ByteArray) ++ s).size = 1 + s.size := by rw [ByteArray.size_append]; rfl
theorem ann (s : ByteArray) : ((⟨#[97, 110, 110, 64]⟩ : ByteArray) ++ s).size = 4 + s.size := by rw [ByteArray.size_append]; rfl
theorem nest_loop (a b : List Int) (bits_ more : Int) (s : ByteArray) (hs : s.size ≤ 1000) (xs : List S29) (hx : ∀ p ∈ xs, p.f0.size ≤ 2000 ∧ p.f1.size ≤ 2000) (hl : xs.length ≤ 100) (hend : Ev (fun k => certpathlaw08_HostNested.l0 k a b bits_ more s xs xs.length xs.length) true) :
    ∀ (d i : Nat), i + d = xs.length → Ev (fun k => certpathlaw08_HostNested.l0 k a b bits_ more s xs xs.length i) true
  | 0, i, h => by
    obtain rfl : i = xs.length := by omega
    exact hend
  | d + 1, i, h => by
    have ih := nest_loop a b bits_ more s hs xs hx hl hend d (i + 1) (by omega)
    have hm : rd_T29 xs (i : Int) ∈ xs := by
      unfold rd_T29
      rw [Int.toNat_natCast, List.getD_eq_getElem?_getD, List.getElem?_eq_getElem (by omega)]
      exact List.getElem_mem _
    obtain ⟨z0, z1⟩ := hx _ hm
    generalize hp : rd_T29 xs (i : Int) = p at *
    have hz := ann s
    refine Ev.step (fun k => by
      simp only [certpathlaw08_HostNested.l0]
      rw [if_pos (by omega), if_pos (by omega), if_pos (by omega), if_pos (by omega), hp, w64 _ (by omega) (by omega)]) ?_
    generalize (⟨#[97, 110, 110, 64]⟩ : ByteArray) ++ s = m at *
    refine Ev.bind (within_p m p.f0 (by omega) (by omega)) ?_
    by_cases h1 : withinS m p.f0 = true
    · rw [h1]
      refine Ev.congr (fun k => by rw [if_pos rfl]) ?_
      refine Ev.bind (within_p m p.f1 (by omega) (by omega)) ?_
      by_cases h2 : withinS m p.f1 = true
      · rw [h2]
        refine Ev.congr (fun k => by rw [if_pos rfl]) ?_
        refine Ev.bind (within_p p.f0 p.f1 (by omega) (by omega)) ?_
        by_cases h3 : withinS p.f0 p.f1 = true
        · rw [h3]
          exact Ev.congr (fun k => by rw [if_pos rfl]; rfl) ih
        · have h4 := (within_nested m p.f0 p.f1 h1 h2).resolve_left h3
          rw [Bool.eq_false_iff.2 h3]
          refine Ev.congr (fun k => by rw [if_neg (by decide)]) ?_
          refine Ev.bind (within_p p.f1 p.f0 (by omega) (by omega)) ?_
          rw [h4]
          exact Ev.congr (fun k => by rw [if_pos rfl]; rfl) ih
      · rw [Bool.eq_false_iff.2 h2]
        exact Ev.congr (fun k => by rw [if_neg (by decide)]; rfl) ih
    · rw [Bool.eq_false_iff.2 h1]
      exact Ev.congr (fun k => by rw [if_neg (by decide)]; rfl) ih
theorem nest_end (a b : List Int) (bits_ more : Int) (ha : ∀ x ∈ a, 0 ≤ x ∧ x < 256) (hb : ∀ x ∈ b, 0 ≤ x ∧ x < 256) (hal : a.length ≤ 1000) (hbl : b.length ≤ 1000) (h0 : 0 ≤ bits_ ∧ bits_ < 256) (h1 : 0 ≤ more ∧ more < 256) (s : ByteArray) (xs : List S29) :
    Ev (fun k => certpathlaw08_HostNested.l0 k a b bits_ more s xs xs.length xs.length) true := by
  refine Ev.step (fun k => by simp only [certpathlaw08_HostNested.l0]; rw [if_neg (by omega)]) ?_
  have N4 : (4 = 4 ∨ 4 = 16) := .inl rfl
  refine Ev.bind (Net.net_f a ha hal bits_ h0.1 h0.2 false) ?_
  refine Ev.bind (Net.net_f a ha hal more h1.1 h1.2 false) ?_
  refine Ev.bind (Net.net_f b hb hbl more h1.1 h1.2 false) ?_
  refine Ev.bind awake_true ?_
  refine Ev.congr (fun k => by rw [if_pos rfl]) ?_
  have hw : Net.wid false = 4 := rfl
  rw [hw]
  generalize Net.nb false bits_ = n
  generalize Net.nb false more = m
  have hsz := Net.net_size 4 a n
  have last : ∀ X : Nat → Option Bool, (∀ k, X k = ((host_AddressWithin.f k ((Net.netS 4 a n).extract 0 4) (Net.netS 4 b m)).bind fun t407 => (if t407 = true then ((host_AddressWithin.f k (Net.netS 4 a n) (Net.netS 4 b m)).bind fun t408 => (if t408 = true then (some true) else ((host_AddressWithin.f k (Net.netS 4 b m) (Net.netS 4 a n)).bind fun t409 => (some t409)))) else (some true)))) → Ev X true := by
    intro X hX
    refine Ev.congr hX ?_
    refine Ev.bind (Net.aw_p _ _) ?_
    by_cases g1 : Net.awS ((Net.netS 4 a n).extract 0 4) (Net.netS 4 b m) = true
    · rw [g1]
      refine Ev.congr (fun k => by rw [if_pos rfl]) ?_
      refine Ev.bind (Net.aw_p _ _) ?_
      by_cases g2 : Net.awS (Net.netS 4 a n) (Net.netS 4 b m) = true
      · rw [g2]
        exact Ev.congr (f := fun _ => some true) (fun k => by rw [if_pos rfl]) (Ev.now _)
      · have g3 := (Net.aw_nested 4 N4 a b n m g1).resolve_left g2
        rw [Bool.eq_false_iff.2 g2]
        refine Ev.congr (fun k => by rw [if_neg (by decide)]) ?_
        exact Ev.bind (Net.aw_p _ _) (Net.cast_ev (Ev.now _) g3)
    · rw [Bool.eq_false_iff.2 g1]
      exact Ev.congr (f := fun _ => some true) (fun k => by rw [if_neg (by decide)]) (Ev.now _)
  refine Ev.bind (Net.aw_p _ _) ?_
  by_cases g : m ≤ n
  · rw [Net.aw_same 4 N4 a n m g]
    refine Ev.congr (fun k => by rw [if_pos rfl, if_pos (by decide), if_pos (by omega)]) ?_
    exact last _ (fun k => rfl)
  · by_cases g0 : Net.awS (Net.netS 4 a n) (Net.netS 4 a m) = true
    · rw [g0]
      refine Ev.congr (fun k => by rw [if_pos rfl, if_pos (by decide), if_pos (by omega)]) ?_
      exact last _ (fun k => rfl)
    · rw [Bool.eq_false_iff.2 g0]
      refine Ev.congr (fun k => by rw [if_neg (by decide)]) ?_
      refine Ev.bind (Net.aw_p _ _) ?_
      rw [Net.aw_same 4 N4 a m n (by omega)]
      refine Ev.congr (fun k => by rw [if_pos rfl, if_pos (by decide), if_pos (by omega)]) ?_
      exact last _ (fun k => rfl)
theorem HostNested : certpathlaw08_HostNested.Pure := by
  intro l m n a b bits_ more hl hl1 hl8 hm hm1 hm8 hn hn1 hn8 hal ha1 ha8 hbl hb1 hb8 hbits hmore
  have by8 : ∀ l : List Int, (∀ x ∈ l, (Lit.int .u8 x).wf = true) → ∀ x ∈ l, 0 ≤ x ∧ x < 256 := by
    intro l h x hx
    have h := h x hx
    simp [Lit.wf, IntKind.min, IntKind.max, IntKind.bits, IntKind.signed] at h
    omega
  simp [Lit.wf, IntKind.min, IntKind.max, IntKind.bits, IntKind.signed] at hbits hmore
  apply Ev.rounds
  have idle : Ev (fun k => certpathlaw08_HostNested.j0 k l m n a b bits_ more true) true := by
    refine Ev.step (f := fun k => _) (fun k => by simp only [certpathlaw08_HostNested.j0]; rw [if_pos trivial]) ?_
    exact Ev.bind awake_true (Ev.now _)
  unfold certpathlaw08_HostNested.f
  by_cases h3 : (a.length : Int) > 16
  · exact Ev.congr (fun k => by rw [if_pos h3]) idle
  · refine Ev.congr (fun k => by rw [if_neg h3]) ?_
    by_cases h4 : (b.length : Int) > 16
    · rw [decide_eq_true h4]; exact idle
    · rw [decide_eq_false h4]
      obtain ⟨s, hs, hss⟩ := dns_any l (by omega) hl8
      obtain ⟨x, hx, hxs⟩ := dns_any m (by omega) hm8
      obtain ⟨y, hy, hys⟩ := dns_any n (by omega) hn8
      have j1 : Ev (fun k => certpathlaw08_HostNested.j1 k a b bits_ more s x y false) true := by
        refine Ev.step (fun k => by
          simp only [certpathlaw08_HostNested.j1]
          rw [if_neg (by decide), if_pos (by omega), if_pos (by omega), if_pos (by omega), Option.bind_some]) ?_
        refine nest_loop a b bits_ more s (by omega) _ ?_ (by simp) (nest_end a b bits_ more (by8 a ha8) (by8 b hb8) (by omega) (by omega) (by omega) (by omega) s _) 6 0 rfl
        intro p hp
        have e1 := pnt x
        have e2 := pnt y
        have e3 := ann x
        simp only [List.mem_cons, List.not_mem_nil, or_false] at hp
        rcases hp with rfl | rfl | rfl | rfl | rfl | rfl <;> exact ⟨by dsimp only; omega, by dsimp only; omega⟩
      refine Ev.step (fun k => by simp only [certpathlaw08_HostNested.j0]; rw [if_neg (by decide)]) ?_
      refine Ev.bind hs (Ev.bind hx (Ev.bind hy ?_))
      refine Ev.bind (dw_p s x (by omega) (by omega)) ?_
      by_cases g1 : dwS s x = true
      · rw [g1]
        refine Ev.congr (fun k => by rw [if_pos rfl]) ?_
        refine Ev.bind (dw_p s y (by omega) (by omega)) ?_
        by_cases g2 : dwS s y = true
        · rw [g2]
          refine Ev.congr (fun k => by rw [if_pos rfl]) ?_
          refine Ev.bind (dw_p x y (by omega) (by omega)) ?_
          by_cases g3 : dwS x y = true
          · rw [g3]
            exact Ev.congr (fun k => by rw [if_pos rfl]) j1
          · have g4 := (dw_nested s x y g1 g2).resolve_left g3
            rw [Bool.eq_false_iff.2 g3]
            refine Ev.congr (fun k => by rw [if_neg (by decide)]) ?_
            refine Ev.bind (dw_p y x (by omega) (by omega)) ?_
            rw [g4]
            exact j1
        · rw [Bool.eq_false_iff.2 g2]
          exact Ev.congr (fun k => by rw [if_neg (by decide)]) j1
      · rw [Bool.eq_false_iff.2 g1]
        exact Ev.congr (fun k => by rw [if_neg (by decide)]) j1
end Go.Proofs.YtegmenlonpgnpaaDoor.Pure
