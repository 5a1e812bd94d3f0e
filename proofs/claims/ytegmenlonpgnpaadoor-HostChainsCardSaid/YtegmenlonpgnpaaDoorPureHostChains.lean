/- For all lists of numbers: lying within a DNS base or within a mail base is transitive, at the names that the law makes (no condition beside the form's own). -/
import Derived.Test.YtegmenlonpgnpaaDoorQx21
import Derived.Test.YtegmenlonpgnpaaDoorHost
set_option linter.unusedVariables false
set_option linter.unusedSimpArgs false
namespace Go.Proofs.YtegmenlonpgnpaaDoor.Pure
open Go Go.RowKit Go.Proofs.YtegmenlonpgnpaaDoor.Q Go.Proofs.YtegmenlonpgnpaaDoorW.PrintWords Go.Proofs.YtegmenlonpgnpaaDoorW.PrintLast Go.Proofs.YtegmenlonpgnpaaDoorW.PrintMore Go.Proofs.YtegmenlonpgnpaaDoor.Num Go.Proofs.YtegmenlonpgnpaaDoor.Str Go.Proofs.YtegmenlonpgnpaaDoor.Host


theorem dns_words (j : Int) (h0 : 0 ≤ j) (h1 : j < 5) : (rdOf ByteArray.empty [(⟨#[97]⟩ : ByteArray), (⟨#[98]⟩ : ByteArray), (⟨#[65]⟩ : ByteArray), (⟨#[111, 114, 103]⟩ : ByteArray), (⟨#[120, 45, 121]⟩ : ByteArray)] j).size ≤ 3 := by
  have hall : ∀ x ∈ [(⟨#[97]⟩ : ByteArray), (⟨#[98]⟩ : ByteArray), (⟨#[65]⟩ : ByteArray), (⟨#[111, 114, 103]⟩ : ByteArray), (⟨#[120, 45, 121]⟩ : ByteArray)], x.size ≤ 3 := by decide
  refine hall _ ?_
  unfold rdOf
  rw [List.getD_eq_getElem?_getD, List.getElem?_eq_getElem (by simp; omega), Option.getD_some]
  exact List.getElem_mem _
theorem dns_l0 (k : Nat) (l : List Int) (s : ByteArray) (i : Nat) : certpathlaw08_dns.l0 (k + 1) l s i = certpathlaw08_dns.j1 k l s i (decide ((i : Int) < (l.length : Int)) && decide ((i : Int) < 4)) := by
  simp only [certpathlaw08_dns.l0]
  by_cases c : (i : Int) < (l.length : Int)
  · rw [if_pos c, decide_eq_true c, Bool.true_and]
  · rw [if_neg c, decide_eq_false c, Bool.false_and]
theorem dns_loop8 (l : List Int) (hl : l.length ≤ 140737488351232) (h8 : ∀ x ∈ l, (Lit.int .u8 x).wf = true) : ∀ (d i : Nat) (s : ByteArray), i + d = 4 → s.size ≤ 5 * i → ∃ r, Ev (fun k => certpathlaw08_dns.l0 k l s i) r ∧ r.size ≤ 20
  | 0, i, s, hd, hs => by
    refine ⟨s, Ev.step (fun k => dns_l0 k l s i) (Ev.step (f := fun _ => some s) (fun k => ?_) (Ev.now _)), by omega⟩
    simp only [certpathlaw08_dns.j1]
    rw [if_neg (by simp; omega)]
  | d + 1, i, s, hd, hs => by
    by_cases c : (i : Int) < (l.length : Int)
    · have hm : 0 ≤ rd l i ∧ rd l i ≤ 255 := by
        have hx : rd l i ∈ l := by
          unfold rd
          rw [Int.toNat_natCast, List.getD_eq_getElem?_getD, List.getElem?_eq_getElem (by omega), Option.getD_some]
          exact List.getElem_mem _
        have := h8 _ hx
        simp [Lit.wf, IntKind.min, IntKind.max, IntKind.bits, IntKind.signed] at this; omega
      have hj := dns_words (rd l i % 5) (by omega) (by omega)
      generalize hz : rdOf ByteArray.empty [(⟨#[97]⟩ : ByteArray), (⟨#[98]⟩ : ByteArray), (⟨#[65]⟩ : ByteArray), (⟨#[111, 114, 103]⟩ : ByteArray), (⟨#[120, 45, 121]⟩ : ByteArray)] (rd l i % 5) = z at hj
      have hb : (decide ((i : Int) < (l.length : Int)) && decide ((i : Int) < 4)) = true := by simp; omega
      by_cases e : s.toList = []
      · obtain ⟨r, hr, hrs⟩ := dns_loop8 l hl h8 d (i + 1) z (by omega) (by omega)
        refine ⟨r, Ev.step (fun k => dns_l0 k l s i) (Ev.step (fun k => ?_) hr), hrs⟩
        simp only [certpathlaw08_dns.j1]
        rw [if_pos hb, Option.bind_some, if_pos (by omega), if_pos c, Int.tmod_eq_emod_of_nonneg hm.1, if_pos (by omega), if_pos (by simp; omega), if_pos e, hz, w64 _ (by omega) (by omega)]
        rfl
      · have h1 : (z ++ (⟨#[46]⟩ : ByteArray)).size = z.size + 1 := by rw [ByteArray.size_append]; rfl
        have h2 : ((z ++ (⟨#[46]⟩ : ByteArray)) ++ s).size = z.size + 1 + s.size := by rw [ByteArray.size_append, h1]
        obtain ⟨r, hr, hrs⟩ := dns_loop8 l hl h8 d (i + 1) ((z ++ (⟨#[46]⟩ : ByteArray)) ++ s) (by omega) (by omega)
        refine ⟨r, Ev.step (fun k => dns_l0 k l s i) (Ev.step (fun k => ?_) hr), hrs⟩
        simp only [certpathlaw08_dns.j1]
        rw [if_pos hb, Option.bind_some, if_pos (by omega), if_pos c, Int.tmod_eq_emod_of_nonneg hm.1, if_pos (by omega), if_pos (by simp; omega), if_neg e, hz, if_pos (by omega), if_pos (by omega), w64 _ (by omega) (by omega)]
        rfl
    · refine ⟨s, Ev.step (fun k => dns_l0 k l s i) (Ev.step (f := fun _ => some s) (fun k => ?_) (Ev.now _)), by omega⟩
      simp only [certpathlaw08_dns.j1]
      rw [if_neg (by simp; omega)]
theorem dns_any (l : List Int) (hl : l.length ≤ 140737488351232) (h8 : ∀ x ∈ l, (Lit.int .u8 x).wf = true) : ∃ r, Ev (fun k => certpathlaw08_dns.f k l) r ∧ r.size ≤ 20 := by
  obtain ⟨r, hr, hs⟩ := dns_loop8 l hl h8 4 0 ⟨#[]⟩ (by omega) (by decide)
  exact ⟨r, hr, hs⟩

theorem low46 (b : UInt8) : lowB b = 46 ↔ b = 46 := by
  have hb := b.toNat_lt
  unfold lowB Hand.low
  constructor
  · intro h
    have h2 := congrArg UInt8.toNat h
    rw [UInt8.toNat_ofNat'] at h2
    apply UInt8.toNat_inj.1
    split at h2
    · exfalso
      have : ((b.toNat : Int) + 32).toNat = b.toNat + 32 := by omega
      rw [this] at h2
      have e : (46 : UInt8).toNat = 46 := rfl
      omega
    · rw [Int.toNat_natCast] at h2
      have e : (46 : UInt8).toNat = 46 := rfl
      omega
  · rintro rfl; rfl
theorem eqS_iff (a b : ByteArray) : eqS a b = true ↔ lowL a = lowL b := by unfold eqS; exact decide_eq_true_iff
theorem endsS_iff (a b : ByteArray) : endsS a b = true ↔ lowL b <:+ lowL a := by
  unfold endsS
  rw [Bool.and_eq_true, decide_eq_true_iff, decide_eq_true_iff, List.suffix_iff_eq_drop, lowL_length, lowL_length]
  constructor
  · rintro ⟨_, h⟩; exact h.symm
  · intro h
    refine ⟨?_, h.symm⟩
    have := congrArg List.length h
    rw [List.length_drop, lowL_length, lowL_length] at this
    omega
theorem lowL_dot (s : ByteArray) : lowL (dot s) = 46 :: lowL s := by rw [lowL_map, L_dot, List.map_cons, ← lowL_map]; rfl
theorem lowL_nil (s : ByteArray) : lowL s = [] ↔ L s = [] := by rw [lowL_map, List.map_eq_nil_iff]
def dwR (s base : ByteArray) : Prop := L base = [] ∨ lowL s = lowL base ∨ (46 :: lowL base) <:+ lowL s
theorem dwS_iff (s base : ByteArray) : dwS s base = true ↔ (L s = [] ∨ patS s = true) ∧ baseS base = true ∧ dwR s base := by
  unfold dwS dwR
  simp only [Bool.and_eq_true, Bool.or_eq_true, decide_eq_true_iff, eqS_iff, endsS_iff, lowL_dot]
theorem dw_trans (a b c : ByteArray) (h1 : dwS a b = true) (h2 : dwS b c = true) : dwS a c = true := by
  rw [dwS_iff] at h1 h2 ⊢
  obtain ⟨ha, hb, r1⟩ := h1
  obtain ⟨_, hc, r2⟩ := h2
  refine ⟨ha, hc, ?_⟩
  unfold dwR at *
  rcases r2 with r2 | r2 | r2
  · exact .inl r2
  · rcases r1 with r1 | r1 | r1
    · refine .inl ((lowL_nil c).1 ?_)
      rw [← r2]; exact (lowL_nil b).2 r1
    · exact .inr (.inl (r1.trans r2))
    · exact .inr (.inr (r2 ▸ r1))
  · rcases r1 with r1 | r1 | r1
    · exfalso
      rw [(lowL_nil b).2 r1] at r2
      have := r2.length_le
      simp at this
    · exact .inr (.inr (r1 ▸ r2))
    · exact .inr (.inr (r2.trans ((List.suffix_cons _ _).trans r1)))
def inR (d base : ByteArray) : Prop := lowL d = lowL base ∨ (bt base 0 = 46 ∧ lowL base <:+ lowL d)
theorem inS_iff (d base : ByteArray) : inS d base = true ↔ inR d base := by
  unfold inS inR
  simp only [Bool.and_eq_true, Bool.or_eq_true, decide_eq_true_iff, eqS_iff, endsS_iff]
theorem point_low (s : ByteArray) : bt s 0 = 46 ↔ ∃ r, lowL s = 46 :: r := by
  by_cases hz : 0 < s.size
  · rw [bt0_point s hz, lowL_map]
    constructor
    · rintro ⟨b, h⟩; exact ⟨b.map lowB, by rw [h]; rfl⟩
    · rintro ⟨r, h⟩
      cases e : L s with
      | nil => rw [e] at h; cases h
      | cons x xs =>
        rw [e, List.map_cons] at h
        injection h with h1 h2
        rw [low46] at h1
        exact ⟨xs, by rw [h1]⟩
  · have e : L s = [] := List.eq_nil_of_length_eq_zero (by rw [← size_L]; omega)
    constructor
    · intro h
      rw [bt_L, e] at h
      exact absurd h (by decide)
    · rintro ⟨r, h⟩
      rw [lowL_map, e] at h; cases h
theorem inR_low {d d' base : ByteArray} (h : lowL d = lowL d') (r : inR d' base) : inR d base := by
  unfold inR at *
  rw [h]; exact r
theorem in_trans {d y z : ByteArray} (h1 : inR d y) (h2 : inR y z) : inR d z := by
  rcases h1 with h1 | ⟨p1, s1⟩
  · exact inR_low h1 h2
  · unfold inR
    rcases h2 with h2 | ⟨p2, s2⟩
    · refine .inr ⟨?_, h2 ▸ s1⟩
      rw [point_low] at p1 ⊢
      rw [← h2]; exact p1
    · exact .inr ⟨p2, s2.trans s1⟩
theorem withinS_iff (s base : ByteArray) : withinS s base = true ↔ mbS base = true ∧ mbS s = true ∧ (if mailS base = true then matchS s base = true else inR (behindS s) base) := by
  unfold withinS
  rw [Bool.and_eq_true, Bool.and_eq_true]
  split
  · exact Iff.rfl
  · rw [inS_iff]
theorem match_iff (a b : ByteArray) : matchS a b = true ↔ ∃ p q, partsS a = some p ∧ partsS b = some q ∧ p.1 = q.1 ∧ lowL (ba p.2) = lowL (ba q.2) := by
  unfold matchS
  cases partsS a with
  | none => simp
  | some p =>
    cases partsS b with
    | none => simp
    | some q => simp [eqS_iff]
theorem behind_mail (s : ByteArray) (p : List UInt8 × List UInt8) (h : partsS s = some p) : behindS s = ba p.2 := by
  obtain ⟨e1, n1, _⟩ := parts_cut s p h
  unfold behindS; rw [e1, cutL_hit 64 p.2 p.1 n1]
theorem behind_no (s : ByteArray) (h : mbS s = true) (hm : mailS s = false) : behindS s = s := by
  unfold behindS; rw [cutL_miss 64 _ (mb_at s h hm)]
theorem within_trans (x y z : ByteArray) (h1 : withinS x y = true) (h2 : withinS y z = true) : withinS x z = true := by
  rw [withinS_iff] at h1 h2 ⊢
  obtain ⟨my, mx, r1⟩ := h1
  obtain ⟨mz, _, r2⟩ := h2
  refine ⟨mz, mx, ?_⟩
  by_cases hz : mailS z = true
  · rw [if_pos hz] at r2 ⊢
    rw [match_iff] at r2 ⊢
    obtain ⟨q, r, hq, hr, e1, e2⟩ := r2
    have hy : mailS y = true := by unfold mailS; rw [hq]; rfl
    rw [if_pos hy, match_iff] at r1
    obtain ⟨p, q', hp, hq', e3, e4⟩ := r1
    rw [hq] at hq'
    obtain rfl := Option.some.inj hq'
    exact ⟨p, r, hp, hr, e3.trans e1, e4.trans e2⟩
  · rw [if_neg hz] at r2 ⊢
    by_cases hy : mailS y = true
    · rw [if_pos hy, match_iff] at r1
      obtain ⟨p, q, hp, hq, e1, e2⟩ := r1
      rw [behind_mail y q hq] at r2
      rw [behind_mail x p hp]
      exact inR_low e2 r2
    · rw [if_neg hy] at r1
      rw [behind_no y my (Bool.eq_false_iff.2 hy)] at r2
      exact in_trans r1 r2

theorem ann (s : ByteArray) : ((⟨#[97, 110, 110, 64]⟩ : ByteArray) ++ s).size = 4 + s.size := by rw [ByteArray.size_append]; rfl
theorem pnt (s : ByteArray) : ((⟨#[46]⟩ : ByteArray) ++ s).size = 1 + s.size := by rw [ByteArray.size_append]; rfl
def trio (s : ByteArray) : List ByteArray := [(⟨#[97, 110, 110, 64]⟩ : ByteArray) ++ s, s, (⟨#[46]⟩ : ByteArray) ++ s]
theorem trio_size (s : ByteArray) (h : s.size ≤ 1000) (i : Int) (h0 : 0 ≤ i) (h1 : i < 3) : (rdOf ByteArray.empty (trio s) i).size ≤ 2000 := by
  have : rdOf ByteArray.empty (trio s) i ∈ trio s := by
    unfold rdOf
    rw [List.getD_eq_getElem?_getD, List.getElem?_eq_getElem (by show i.toNat < 3; omega), Option.getD_some]
    exact List.getElem_mem _
  generalize rdOf ByteArray.empty (trio s) i = x at this ⊢
  unfold trio at this
  simp only [List.mem_cons, List.not_mem_nil, or_false] at this
  rcases this with rfl | rfl | rfl
  · rw [ann]; omega
  · omega
  · rw [pnt]; omega
theorem z_loop (b c x y : ByteArray) (xs ys : List ByteArray) (i j : Int) (hb : b.size ≤ 1000) (hc : c.size ≤ 1000) (hx : x.size ≤ 2000) (hy : y.size ≤ 2000) (hj0 : 0 ≤ j) (hj1 : j ≤ 3) (hn : Ev (fun k => certpathlaw08_HostChains.l1 k b c x xs 3 i ys 3 (j + 1)) true) : ∀ (d : Nat) (q : Int), 0 ≤ q → 3 - q = d →
    Ev (fun k => certpathlaw08_HostChains.l2 k b c x y xs 3 i ys 3 j (trio c) 3 q) true
  | 0, q, h0, hd => by
    refine Ev.step (fun k => ?_) hn
    simp only [certpathlaw08_HostChains.l2]
    rw [if_neg (by omega), w64 _ (by omega) (by omega)]
  | d + 1, q, h0, hd => by
    have hz := trio_size c hc q h0 (by omega)
    have ih := z_loop b c x y xs ys i j hb hc hx hy hj0 hj1 hn d (q + 1) (by omega) (by omega)
    generalize hze : rdOf ByteArray.empty (trio c) q = z at hz
    refine Ev.step (fun k => by simp only [certpathlaw08_HostChains.l2]; rw [if_pos (by omega), if_pos h0, if_pos (show q < ((trio c).length : Int) by show q < 3; omega), hze, w64 _ (by omega) (by omega)]) ?_
    refine Ev.bind (within_p x y (by omega) (by omega)) ?_
    by_cases h1 : withinS x y = true
    · rw [h1]
      refine Ev.congr (fun k => by rw [if_pos rfl]) ?_
      refine Ev.bind (within_p y z (by omega) (by omega)) ?_
      by_cases h2 : withinS y z = true
      · rw [h2]
        refine Ev.congr (fun k => by rw [if_pos rfl]) ?_
        refine Ev.bind (within_p x z (by omega) (by omega)) ?_
        rw [within_trans x y z h1 h2]
        exact Ev.congr (fun k => by rw [if_pos rfl]) ih
      · rw [Bool.eq_false_iff.2 h2]
        exact Ev.congr (fun k => by rw [if_neg (by decide)]) ih
    · rw [Bool.eq_false_iff.2 h1]
      exact Ev.congr (fun k => by rw [if_neg (by decide)]) ih
theorem y_loop (b c x : ByteArray) (xs : List ByteArray) (i : Int) (hb : b.size ≤ 1000) (hc : c.size ≤ 1000) (hx : x.size ≤ 2000) (hi0 : 0 ≤ i) (hi1 : i ≤ 3) (hn : Ev (fun k => certpathlaw08_HostChains.l0 k b c xs 3 (i + 1)) true) : ∀ (d : Nat) (j : Int), 0 ≤ j → 3 - j = d →
    Ev (fun k => certpathlaw08_HostChains.l1 k b c x xs 3 i (trio b) 3 j) true
  | 0, j, h0, hd => by
    refine Ev.step (fun k => ?_) hn
    simp only [certpathlaw08_HostChains.l1]
    rw [if_neg (by omega), w64 _ (by omega) (by omega)]
  | d + 1, j, h0, hd => by
    have hy := trio_size b hb j h0 (by omega)
    have ih := y_loop b c x xs i hb hc hx hi0 hi1 hn d (j + 1) (by omega) (by omega)
    refine Ev.step (fun k => ?_) (z_loop b c x _ xs (trio b) i j hb hc hx hy h0 (by omega) ih 3 0 (by omega) (by omega))
    simp only [certpathlaw08_HostChains.l1]
    rw [if_pos (by omega), if_pos h0, if_pos (show j < ((trio b).length : Int) by show j < 3; omega), if_pos (by omega), if_pos (by omega), Option.bind_some]
    rfl
theorem x_loop (b c : ByteArray) (xs : List ByteArray) (hb : b.size ≤ 1000) (hc : c.size ≤ 1000) (a : ByteArray) (ha : a.size ≤ 1000) (hxs : xs = trio a) : ∀ (d : Nat) (i : Int), 0 ≤ i → 3 - i = d →
    Ev (fun k => certpathlaw08_HostChains.l0 k b c xs 3 i) true
  | 0, i, h0, hd => by
    refine Ev.step (f := fun k => _) (fun k => by simp only [certpathlaw08_HostChains.l0]; rw [if_neg (by omega)]) ?_
    exact Ev.bind awake_true (Ev.now _)
  | d + 1, i, h0, hd => by
    have hx := trio_size a ha i h0 (by omega)
    rw [← hxs] at hx
    have ih := x_loop b c xs hb hc a ha hxs d (i + 1) (by omega) (by omega)
    refine Ev.step (fun k => ?_) (y_loop b c _ xs i hb hc hx h0 (by omega) ih 3 0 (by omega) (by omega))
    simp only [certpathlaw08_HostChains.l0]
    rw [if_pos (by omega), if_pos h0, if_pos (show i < (xs.length : Int) by rw [hxs]; show i < 3; omega), if_pos (by omega), if_pos (by omega), Option.bind_some]
    rfl
theorem j1_any (a b c : ByteArray) (ha : a.size ≤ 1000) (hb : b.size ≤ 1000) (hc : c.size ≤ 1000) : Ev (fun k => certpathlaw08_HostChains.j1 k a b c) true := by
  have hj2 : Ev (fun k => certpathlaw08_HostChains.j2 k a b c false) true := by
    refine Ev.step (fun k => ?_) (x_loop b c (trio a) hb hc a ha rfl 3 0 (by omega) (by omega))
    simp only [certpathlaw08_HostChains.j2]
    rw [if_neg (by decide), if_pos (by omega), if_pos (by omega), Option.bind_some]
    rfl
  refine Ev.step (fun k => by simp only [certpathlaw08_HostChains.j1]; rfl) ?_
  refine Ev.bind (dw_p a b (by omega) (by omega)) ?_
  by_cases h1 : dwS a b = true
  · rw [h1]
    refine Ev.congr (fun k => by rw [if_pos rfl]) ?_
    refine Ev.bind (dw_p b c (by omega) (by omega)) ?_
    by_cases h2 : dwS b c = true
    · rw [h2]
      refine Ev.congr (fun k => by rw [if_pos rfl]) ?_
      refine Ev.bind (dw_p a c (by omega) (by omega)) ?_
      rw [dw_trans a b c h1 h2]
      exact hj2
    · rw [Bool.eq_false_iff.2 h2]
      exact Ev.congr (fun k => by rw [if_neg (by decide)]) hj2
  · rw [Bool.eq_false_iff.2 h1]
    exact Ev.congr (fun k => by rw [if_neg (by decide)]) hj2
theorem HostChains : certpathlaw08_HostChains.Pure := by
  intro l m n _ hl hl8 _ hm hm8 _ hn hn8
  apply Ev.rounds
  obtain ⟨a, ha, has⟩ := dns_any l (by omega) hl8
  obtain ⟨b, hb, hbs⟩ := dns_any m (by omega) hm8
  obtain ⟨c, hc, hcs⟩ := dns_any n (by omega) hn8
  unfold certpathlaw08_HostChains.f
  refine Ev.bind ha (Ev.bind hb (Ev.bind hc ?_))
  have hfalse : Ev (fun k => certpathlaw08_HostChains.j0 k l a b c false) true := by
    refine Ev.step (fun k => ?_) (j1_any a b c (by omega) (by omega) (by omega))
    simp only [certpathlaw08_HostChains.j0]
    rw [if_neg (by decide)]
  by_cases h1 : (l.length : Int) > 1
  · refine Ev.congr (fun k => by rw [if_pos h1]) ?_
    by_cases h2 : (m.length : Int) < 2
    · rw [decide_eq_true h2]
      have hmn : mn (l.length : Int) 2 = 2 := by unfold mn; split <;> omega
      obtain ⟨b', hb', hbs'⟩ := dns_any (l.take 2) (by rw [List.length_take]; omega) (fun x hx => hl8 x (List.mem_of_mem_take hx))
      obtain ⟨c', hc', hcs'⟩ := dns_any (l.take 1) (by rw [List.length_take]; omega) (fun x hx => hl8 x (List.mem_of_mem_take hx))
      refine Ev.step (fun k => by simp only [certpathlaw08_HostChains.j0]; rw [if_pos trivial, hmn, if_pos (by decide), if_pos (by omega)]) ?_
      refine Ev.bind hb' ?_
      refine Ev.congr (fun k => by rw [if_pos (by omega)]) ?_
      refine Ev.bind hc' ?_
      exact j1_any a b' c' (by omega) (by omega) (by omega)
    · rw [decide_eq_false h2]; exact hfalse
  · exact Ev.congr (fun k => by rw [if_neg h1]) hfalse

end Go.Proofs.YtegmenlonpgnpaaDoor.Pure
