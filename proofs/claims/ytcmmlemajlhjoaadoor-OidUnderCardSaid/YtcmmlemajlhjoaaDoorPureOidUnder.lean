/- For all lists of numbers and every string, the program's Under agrees with the document's definition, and holds of the identifiers that the law makes (no condition beside the form's own). -/
import Derived.Test.YtcmmlemajlhjoaaDoorQx15
import Derived.Test.YtcmmlemajlhjoaaDoorOidId
import Derived.Test.YtcmmlemajlhjoaaDoorQx13
import Derived.Test.YtcmmlemajlhjoaaDoorQx14
set_option linter.unusedVariables false
set_option linter.unusedSimpArgs false
namespace Go.Proofs.YtcmmlemajlhjoaaDoor.Pure
open Go Go.RowKit Go.Proofs.YtcmmlemajlhjoaaDoor.Q Go.Proofs.YtcmmlemajlhjoaaDoorW.PrintWords Go.Proofs.YtcmmlemajlhjoaaDoorW.PrintLast Go.Proofs.YtcmmlemajlhjoaaDoorW.PrintMore Go.Proofs.YtcmmlemajlhjoaaDoor.Num Go.Proofs.YtcmmlemajlhjoaaDoor.Str Go.Proofs.YtcmmlemajlhjoaaDoor.Oid

/-! ### An arc's digits are told by its value -/
def rv : List UInt8 → Int
  | [] => 0
  | b :: l => ((b.toNat : Int) - 48) + 10 * rv l
theorem val_rv : ∀ l : List UInt8, val 0 l.reverse = rv l
  | [] => rfl
  | b :: l => by rw [List.reverse_cons, val_snoc, val_rv l]; show _ = ((b.toNat : Int) - 48) + 10 * rv l; omega
def strict (l : List UInt8) : Prop := l.all dig = true ∧ l.getLast? ≠ some 48
theorem strict_tail (b c : UInt8) (r : List UInt8) (h : strict (b :: c :: r)) : strict (c :: r) := by
  obtain ⟨h1, h2⟩ := h
  rw [List.all_cons, Bool.and_eq_true] at h1
  rw [List.getLast?_cons_cons] at h2
  exact ⟨h1.2, h2⟩
theorem strict_head (b : UInt8) (r : List UInt8) (h : strict (b :: r)) : 48 ≤ b.toNat ∧ b.toNat ≤ 57 := by
  have h1 := h.1
  rw [List.all_cons, Bool.and_eq_true] at h1
  exact dig_range b h1.1
theorem rv_pos : ∀ l : List UInt8, strict l → l ≠ [] → 0 < rv l
  | [], _, h => absurd rfl h
  | [b], h, _ => by
    have hb := strict_head b [] h
    have hn : b ≠ 48 := by
      intro e
      exact h.2 (by rw [e]; rfl)
    have : b.toNat ≠ 48 := fun e => hn (UInt8.toNat_inj.1 e)
    show 0 < ((b.toNat : Int) - 48) + 10 * 0
    omega
  | b :: c :: r, h, _ => by
    have := rv_pos (c :: r) (strict_tail b c r h) (by simp)
    have hb := strict_head b _ h
    show 0 < ((b.toNat : Int) - 48) + 10 * rv (c :: r)
    omega
theorem rv_inj : ∀ p q : List UInt8, strict p → strict q → rv p = rv q → p = q
  | [], [], _, _, _ => rfl
  | [], c :: q, _, hq, e => by
    have := rv_pos (c :: q) hq (by simp)
    rw [← e] at this
    exact absurd this (by decide)
  | b :: p, [], hp, _, e => by
    have := rv_pos (b :: p) hp (by simp)
    rw [e] at this
    exact absurd this (by decide)
  | b :: p, c :: q, hp, hq, e => by
    have hb := strict_head b p hp
    have hc := strict_head c q hq
    have e' : ((b.toNat : Int) - 48) + 10 * rv p = ((c.toNat : Int) - 48) + 10 * rv q := e
    have e1 : b.toNat = c.toNat := by omega
    have e2 : rv p = rv q := by omega
    have e3 : b = c := UInt8.toNat_inj.1 e1
    subst e3
    congr 1
    have sp : strict p := by
      cases p with
      | nil => exact ⟨rfl, by simp⟩
      | cons x r => exact strict_tail b x r hp
    have sq : strict q := by
      cases q with
      | nil => exact ⟨rfl, by simp⟩
      | cons x r => exact strict_tail b x r hq
    exact rv_inj p q sp sq e2
theorem ok_or (p : List UInt8) (h : okP p = true) : p = [48] ∨ strict p.reverse := by
  obtain ⟨h1, h2, h3, h4, h5⟩ := okP_parts p h
  by_cases hh : p.head? = some 48
  · left
    unfold okP at h
    simp only [Bool.and_eq_true, Bool.not_eq_true', Bool.and_eq_false_iff, decide_eq_true_eq, decide_eq_false_iff_not] at h
    have hl : ¬ 1 < p.length := by
      rcases h.2.2.1 with h | h
      · exact h
      · exact absurd hh h
    cases p with
    | nil => exact absurd rfl h1
    | cons x r =>
      cases r with
      | nil => simp only [List.head?_cons, Option.some.injEq] at hh; rw [hh]
      | cons y r => simp at hl
  · right
    refine ⟨by rw [List.all_reverse]; exact h3, ?_⟩
    rw [List.getLast?_reverse]; exact hh
theorem val_inj (p q : List UInt8) (hp : okP p = true) (hq : okP q = true) (e : val 0 p = val 0 q) : p = q := by
  have ep : val 0 p = rv p.reverse := by rw [← val_rv, List.reverse_reverse]
  have eq : val 0 q = rv q.reverse := by rw [← val_rv, List.reverse_reverse]
  have np := (okP_parts p hp).1
  have nq := (okP_parts q hq).1
  have z : val 0 [48] = 0 := by decide
  rcases ok_or p hp with h1 | h1 <;> rcases ok_or q hq with h2 | h2
  · rw [h1, h2]
  · exfalso
    have := rv_pos _ h2 (by simpa using nq)
    rw [← eq, ← e, h1, z] at this
    exact absurd this (by decide)
  · exfalso
    have := rv_pos _ h1 (by simpa using np)
    rw [← ep, e, h2, z] at this
    exact absurd this (by decide)
  · have := rv_inj _ _ h1 h2 (by rw [← ep, ← eq, e])
    have := congrArg List.reverse this
    rwa [List.reverse_reverse, List.reverse_reverse] at this
theorem vals_inj : ∀ ps qs : List (List UInt8), ps.all okP = true → qs.all okP = true → ps.map (val 0) <+: qs.map (val 0) → ps <+: qs
  | [], _, _, _, _ => List.nil_prefix
  | p :: ps, [], _, _, h => by
    have := h.length_le
    simp at this
  | p :: ps, q :: qs, hp, hq, h => by
    rw [List.all_cons, Bool.and_eq_true] at hp hq
    rw [List.map_cons, List.map_cons, List.cons_prefix_cons] at h
    have := val_inj p q hp.1 hq.1 h.1
    subst this
    exact List.cons_prefix_cons.2 ⟨rfl, vals_inj ps qs hp.2 hq.2 h.2⟩
/-! ### Parts and their text -/
def jn : List (List UInt8) → List UInt8
  | [] => []
  | [p] => p
  | p :: q :: r => p ++ 46 :: jn (q :: r)
theorem jn_spl : ∀ l : List UInt8, jn (spl 46 l) = l
  | [] => rfl
  | x :: xs => by
    have ih := jn_spl xs
    rw [spl_cons]
    by_cases e : x = 46
    · rw [if_pos e]
      cases hq : spl 46 xs with
      | nil => exact absurd hq (spl_ne 46 xs)
      | cons q qs =>
        rw [hq] at ih
        show [] ++ 46 :: jn (q :: qs) = _
        rw [ih, e]; rfl
    · rw [if_neg e]
      cases hq : spl 46 xs with
      | nil => exact absurd hq (spl_ne 46 xs)
      | cons q qs =>
        rw [hq] at ih
        cases qs with
        | nil => show x :: q = _; rw [show q = xs from ih]
        | cons y ys =>
          show (x :: q) ++ 46 :: jn (y :: ys) = _
          have ih' : q ++ 46 :: jn (y :: ys) = xs := ih
          rw [List.cons_append, ih']
theorem jn_app : ∀ ps qs : List (List UInt8), ps ≠ [] → qs ≠ [] → jn (ps ++ qs) = jn ps ++ 46 :: jn qs
  | [], _, h, _ => absurd rfl h
  | [p], q :: qs, _, _ => rfl
  | [p], [], _, h => absurd rfl h
  | p :: r :: ps, qs, _, h => by
    have ih := jn_app (r :: ps) qs (by simp) h
    show p ++ 46 :: jn ((r :: ps) ++ qs) = (p ++ 46 :: jn (r :: ps)) ++ 46 :: jn qs
    rw [ih]; simp
theorem spl_app (b : List UInt8) : ∀ a : List UInt8, spl 46 (a ++ 46 :: b) = spl 46 a ++ spl 46 b
  | [] => by rw [List.nil_append, spl_cons, if_pos rfl]; rfl
  | x :: xs => by
    have ih := spl_app b xs
    rw [List.cons_append, spl_cons, spl_cons, ih]
    by_cases e : x = 46
    · rw [if_pos e, if_pos e]; rfl
    · rw [if_neg e, if_neg e]
      cases hq : spl 46 xs with
      | nil => exact absurd hq (spl_ne 46 xs)
      | cons q qs => rfl
theorem arcs_parts (s : ByteArray) (x : List Int) (h : arcsS s = some x) : x = (spl 46 (L s)).map (val 0) ∧ (spl 46 (L s)).all okP = true := by
  unfold arcsS at h
  split at h
  · rename_i hc
    exact ⟨(Option.some.inj h).symm, hc.2.2.1⟩
  · cases h
theorem under_iff (s b : ByteArray) (x y : List Int) (hx : arcsS s = some x) (hy : arcsS b = some y) : (L s = L b ∨ (L b ++ [46]) <+: L s) ↔ y <+: x := by
  obtain ⟨e1, o1⟩ := arcs_parts s x hx
  obtain ⟨e2, o2⟩ := arcs_parts b y hy
  constructor
  · rintro (h | ⟨t, ht⟩)
    · rw [e1, e2, h]; exact List.prefix_refl _
    · rw [e1, e2, ← ht, List.append_assoc, List.singleton_append, spl_app, List.map_append]
      exact List.prefix_append _ _
  · intro h
    rw [e1, e2] at h
    obtain ⟨r, hr⟩ := vals_inj _ _ o2 o1 h
    have j1 := jn_spl (L s)
    have j2 := jn_spl (L b)
    cases r with
    | nil =>
      left
      rw [List.append_nil] at hr
      rw [← j1, ← hr, j2]
    | cons p r =>
      right
      rw [← hr, jn_app _ _ (spl_ne 46 _) (by simp), j2] at j1
      exact ⟨jn (p :: r), by rw [List.append_assoc, List.singleton_append]; exact j1⟩
def underS (s b : ByteArray) : Bool := match arcsS s, arcsS b with
  | some x, some y => decide (y <+: x)
  | _, _ => false
theorem under_p (s b : ByteArray) (hs : s.size ≤ 90000) (hb : b.size ≤ 90000) : Ev (fun k => oid_Under.f k s b) (underS s b) := by
  refine Ev.bind (valid_p s (by omega)) ?_
  unfold underS
  cases hx : arcsS s with
  | none => exact Ev.congr (f := fun _ => some false) (fun k => by rw [if_neg (by simp)]) (Ev.now _)
  | some x =>
    refine Ev.congr (fun k => by rw [if_pos (by rfl)]) ?_
    refine Ev.bind (valid_p b (by omega)) ?_
    cases hy : arcsS b with
    | none => exact Ev.congr (f := fun _ => some false) (fun k => by rw [if_neg (by simp)]) (Ev.now _)
    | some y =>
      have hu := under_iff s b x y hx hy
      refine Ev.congr (f := fun _ => some (decide (y <+: x))) (fun k => ?_) (Ev.now _)
      rw [if_pos (by rfl)]
      by_cases e : s.toList = b.toList
      · rw [if_pos e, decide_eq_true (hu.1 (Or.inl (by rw [← toList_L, ← toList_L]; exact e)))]
      · have e' : ¬ L s = L b := by rw [← toList_L, ← toList_L]; exact e
        rw [if_neg e, if_pos (by omega)]
        unfold strings_HasPrefix.f stringslite_HasPrefix.f
        have hl : (b ++ (⟨#[46]⟩ : ByteArray)).size = b.size + 1 := by rw [ByteArray.size_append]; rfl
        have lb : L (b ++ (⟨#[46]⟩ : ByteArray)) = L b ++ [46] := by rw [L_append]
        have key : (L b ++ [46]) <+: L s ↔ y <+: x := ⟨fun h => hu.1 (Or.inr h), fun h => (hu.2 h).resolve_left e'⟩
        by_cases hle : b.size + 1 ≤ s.size
        · rw [hl, if_pos (by omega), if_pos (by omega), if_pos (by omega), Option.bind_some, Option.bind_some, Int.toNat_natCast, toList_L, toList_L, L_upto, lb]
          have hlen : (L b ++ [46]).length = b.size + 1 := by rw [List.length_append, ← size_L]; rfl
          have hd : decide (y <+: x) = decide (L b ++ [46] = (L s).take (b.size + 1)) := decide_eq_decide.2 (key.symm.trans (by rw [List.prefix_iff_eq_take, hlen]))
          rw [hd]
          by_cases h : L b ++ [46] = (L s).take (b.size + 1)
          · rw [decide_eq_true h, h]; simp
          · rw [decide_eq_false h]
            congr 1
            rw [beq_eq_false_iff_ne]
            exact fun h2 => h h2.symm
        · have hd : decide (y <+: x) = false := decide_eq_false (fun hp => by
            have := (key.2 hp).length_le
            rw [List.length_append, ← size_L, ← size_L] at this
            simp at this
            omega)
          rw [hl, if_neg (by omega), Option.bind_some, Option.bind_some, hd]
theorem rprefix_loop (x y : List Int) (hx : x.length ≤ 100) (hy : y.length ≤ x.length) : ∀ (d i : Nat), i + d = y.length → Ev (fun k => certpathref01_UnderOID.l0 k x y y.length i) (decide (y.drop i <+: x.drop i))
  | 0, i, hi => by
    rw [List.drop_eq_nil_of_le (show y.length ≤ i by omega), decide_eq_true List.nil_prefix]
    exact Ev.step (f := fun _ => some _) (fun k => by simp only [certpathref01_UnderOID.l0]; rw [if_neg (by omega)]) (Ev.now _)
  | d + 1, i, hi => by
    have ih := rprefix_loop x y hx hy d (i + 1) (by omega)
    rw [drop_rd y i (by omega), drop_rd x i (by omega)]
    by_cases e : rd x i = rd y i
    · have : decide (rd y i :: y.drop (i + 1) <+: rd x i :: x.drop (i + 1)) = decide (y.drop (i + 1) <+: x.drop (i + 1)) := by
        rw [decide_eq_decide, List.cons_prefix_cons]
        exact ⟨fun h => h.2, fun h => ⟨e.symm, h⟩⟩
      rw [this]
      refine Ev.step (fun k => ?_) ih
      simp only [certpathref01_UnderOID.l0]
      rw [if_pos (by omega), if_pos (by omega), if_pos (by omega), if_pos (by omega), if_pos e, w64 _ (by omega) (by omega)]
      rfl
    · have : decide (rd y i :: y.drop (i + 1) <+: rd x i :: x.drop (i + 1)) = false := by
        rw [decide_eq_false_iff_not, List.cons_prefix_cons]
        exact fun h => e h.1.symm
      rw [this]
      refine Ev.step (f := fun _ => some _) (fun k => ?_) (Ev.now _)
      simp only [certpathref01_UnderOID.l0]
      rw [if_pos (by omega), if_pos (by omega), if_pos (by omega), if_pos (by omega), if_neg e]
theorem under_r (s b : ByteArray) (hs : s.size ≤ 90000) (hb : b.size ≤ 90000) : Ev (fun k => certpathref01_UnderOID.f k s b) (underS s b) := by
  refine Ev.bind (arcs_r s (by omega)) (Ev.bind (arcs_r b (by omega)) ?_)
  unfold underS
  have bad : ∀ x y, Ev (fun k => certpathref01_UnderOID.j0 k x y true) false := fun x y => Ev.step (f := fun _ => some false) (fun k => by simp only [certpathref01_UnderOID.j0]; rw [if_pos trivial]) (Ev.now _)
  cases hx : arcsS s with
  | none => exact Ev.congr (fun k => by rw [if_neg (by simp [pairS])]) (bad _ _)
  | some x =>
    have lx := arcs_len s x hx
    refine Ev.congr (fun k => by rw [if_pos (show (pairS (some x)).2 = true from rfl)]) ?_
    cases hy : arcsS b with
    | none => exact Ev.congr (fun k => by rw [if_neg (by simp [pairS])]) (bad _ _)
    | some y =>
      have ly := arcs_len b y hy
      refine Ev.congr (fun k => by rw [if_pos (show (pairS (some y)).2 = true from rfl)]) ?_
      show Ev (fun k => certpathref01_UnderOID.j0 k x y (decide ((y.length : Int) > (x.length : Int)))) _
      by_cases h : y.length ≤ x.length
      · rw [decide_eq_false (show ¬ (y.length : Int) > (x.length : Int) by omega)]
        exact Ev.step (fun k => by simp only [certpathref01_UnderOID.j0]; rw [if_neg (by decide)]; rfl) (rprefix_loop x y (by omega) h y.length 0 (by omega))
      · rw [decide_eq_true (show (y.length : Int) > (x.length : Int) by omega)]
        refine cast_ev (bad _ _) ?_
        symm
        rw [decide_eq_false_iff_not]
        exact fun hp => h hp.length_le
/-! ### The law -/
theorem law_loop (a b c : ByteArray) (ha : a.size ≤ 1000) (hb : b.size ≤ 1000) (hc : c.size ≤ 1000) (h1 : underS a a = true) (h2 : underS a b = true) (h3 : underS b c = true) (h4 : underS a c = true)
    (xs : List S33) (hxs : ∀ x ∈ xs, x.f0.size ≤ 80000 ∧ x.f1.size ≤ 80000) (hl : xs.length < 100) : ∀ (d : Nat) (i : Int), 0 ≤ i → (xs.length : Int) - i = d →
    Ev (fun k => certpathlaw04_OidUnder.l0 k a b c xs xs.length i) true
  | 0, i, h0, hd => by
    refine Ev.step (f := fun k => _) (fun k => by simp only [certpathlaw04_OidUnder.l0]; rw [if_neg (by omega)]) ?_
    refine Ev.bind awake_true ?_
    refine Ev.congr (fun k => by rw [if_pos rfl]) ?_
    refine Ev.bind (under_p a a (by omega) (by omega)) ?_
    rw [h1]
    refine Ev.congr (fun k => by rw [if_pos rfl]) ?_
    refine Ev.bind (under_p a b (by omega) (by omega)) ?_
    rw [h2]
    refine Ev.congr (fun k => by rw [if_pos rfl]) ?_
    refine Ev.bind (under_p b c (by omega) (by omega)) ?_
    rw [h3]
    refine Ev.congr (fun k => by rw [if_pos rfl]) ?_
    refine Ev.bind (under_p a c (by omega) (by omega)) ?_
    rw [h4]
    exact Ev.now _
  | d + 1, i, h0, hd => by
    have hs : (rd_T33 xs i).f0.size ≤ 80000 ∧ (rd_T33 xs i).f1.size ≤ 80000 := by
      refine hxs _ ?_
      unfold rd_T33
      rw [List.getD_eq_getElem?_getD, List.getElem?_eq_getElem (by omega)]
      exact List.getElem_mem _
    generalize hxe : rd_T33 xs i = p at hs
    obtain ⟨u, v⟩ := p
    obtain ⟨g1, g2⟩ := hs
    have g1' : u.size ≤ 80000 := g1
    have g2' : v.size ≤ 80000 := g2
    refine Ev.step (fun k => by simp only [certpathlaw04_OidUnder.l0]; rw [if_pos (by omega), if_pos h0, if_pos (by omega), w64 (i + 1) (by omega) (by omega), hxe]) ?_
    refine Ev.bind (under_p u v (by omega) (by omega)) (Ev.bind (under_r u v (by omega) (by omega)) ?_)
    rw [bne_self_eq_false]
    refine Ev.congr (fun k => by rw [if_neg (by decide)]) ?_
    exact law_loop a b c ha hb hc h1 h2 h3 h4 xs hxs hl d (i + 1) (by omega) (by omega)
theorem u32_range (l : List Int) (h : ∀ x ∈ l, (Lit.int .u32 x).wf = true) : ∀ x ∈ l, 0 ≤ x ∧ x ≤ 4294967295 := by
  intro x hx
  have := h x hx
  simp [Lit.wf, IntKind.min, IntKind.max, IntKind.bits, IntKind.signed] at this; omega
theorem idV_take (l : List Int) (m : Nat) (h : 1 ≤ m ∨ l = []) : idV (l.take m) <+: idV l := by
  cases l with
  | nil => rw [List.take_nil]; exact List.prefix_refl _
  | cons x r =>
    have hm : 1 ≤ m := by
      rcases h with h | h
      · exact h
      · cases h
    obtain ⟨m', rfl⟩ : ∃ m', m = m' + 1 := ⟨m - 1, by omega⟩
    rw [List.take_succ_cons]
    unfold idV headV
    simp only [List.drop_succ_cons, List.drop_zero]
    rw [List.take_take, Nat.min_comm, ← List.take_take]
    refine (List.prefix_append_right_inj _).2 ?_
    exact List.IsPrefix.map _ (List.take_prefix _ _)
theorem under_of (l m : List Int) (hl : ∀ x ∈ l, 0 ≤ x ∧ x ≤ 4294967295) (hm : ∀ x ∈ m, 0 ≤ x ∧ x ≤ 4294967295) (h : idV m <+: idV l) : underS (ba (tex (idV l))) (ba (tex (idV m))) = true := by
  unfold underS
  rw [id_arcs l hl, id_arcs m hm]
  exact decide_eq_true (List.IsPrefix.map _ h)
theorem mn_eq (a b : Int) : mn a b = if b < a then b else a := rfl
theorem OidUnder : certpathlaw04_OidUnder.Pure := by
  intro l k1 j1 s _ hl h8 hk hj hs
  apply Ev.rounds
  have bad : Ev (fun k => certpathlaw04_OidUnder.j0 k l k1 j1 s true) true := by
    refine Ev.step (fun k => by simp only [certpathlaw04_OidUnder.j0]; rw [if_pos trivial]) ?_
    exact Ev.bind awake_true (Ev.now _)
  unfold certpathlaw04_OidUnder.f
  by_cases h : (s.size : Int) > 200
  · exact Ev.congr (fun k => by rw [if_pos h]) bad
  · refine Ev.congr (fun k => by rw [if_neg h]) ?_
    by_cases h2 : (l.length : Int) > 8
    · rw [decide_eq_true h2]; exact bad
    · rw [decide_eq_false h2]
      have w1 := u32_range l h8
      have k0 : 0 ≤ k1 ∧ k1 ≤ 255 := by
        simp [Lit.wf, IntKind.min, IntKind.max, IntKind.bits, IntKind.signed] at hk; omega
      have j0 : 0 ≤ j1 ∧ j1 ≤ 255 := by
        simp [Lit.wf, IntKind.min, IntKind.max, IntKind.bits, IntKind.signed] at hj; omega
      have ek : wrap64 (1 + wrap64 (Int.tmod k1 8)) = 1 + k1 % 8 := by
        rw [Int.tmod_eq_emod_of_nonneg k0.1, w64 (k1 % 8) (by omega) (by omega), w64 _ (by omega) (by omega)]
      have ej : wrap64 (1 + wrap64 (Int.tmod j1 8)) = 1 + j1 % 8 := by
        rw [Int.tmod_eq_emod_of_nonneg j0.1, w64 (j1 % 8) (by omega) (by omega), w64 _ (by omega) (by omega)]
      obtain ⟨m1, hm1⟩ : ∃ m : Nat, mn (l.length : Int) (1 + k1 % 8) = (m : Int) := ⟨(mn (l.length : Int) (1 + k1 % 8)).toNat, by rw [mn_eq]; split <;> omega⟩
      have b1 : m1 ≤ l.length ∧ (1 ≤ m1 ∨ l = []) := by
        rw [mn_eq] at hm1
        have : l.length = 0 ∨ 1 ≤ l.length := by omega
        split at hm1
        · exact ⟨by omega, Or.inl (by omega)⟩
        · refine ⟨by omega, ?_⟩
          rcases this with h | h
          · exact Or.inr (List.eq_nil_of_length_eq_zero h)
          · exact Or.inl (by omega)
      obtain ⟨m2, hm2⟩ : ∃ m : Nat, mn (m1 : Int) (1 + j1 % 8) = (m : Int) := ⟨(mn (m1 : Int) (1 + j1 % 8)).toNat, by rw [mn_eq]; split <;> omega⟩
      have b2 : m2 ≤ m1 ∧ (1 ≤ m2 ∨ l = []) := by
        rw [mn_eq] at hm2
        split at hm2
        · exact ⟨by omega, Or.inl (by omega)⟩
        · refine ⟨by omega, ?_⟩
          rcases b1.2 with h | h
          · exact Or.inl (by omega)
          · exact Or.inr h
      have w2 : ∀ x ∈ l.take m1, 0 ≤ x ∧ x ≤ 4294967295 := fun x hx => w1 x (List.mem_of_mem_take hx)
      have w3 : ∀ x ∈ l.take m2, 0 ≤ x ∧ x ≤ 4294967295 := fun x hx => w1 x (List.mem_of_mem_take hx)
      have p1 := idV_take l m1 b1.2
      have p2 := idV_take l m2 b2.2
      have p3 : idV (l.take m2) <+: idV (l.take m1) := by
        have e : l.take m2 = (l.take m1).take m2 := by rw [List.take_take, Nat.min_eq_left b2.1]
        rw [e]
        refine idV_take _ _ ?_
        rcases b2.2 with h | h
        · exact Or.inl h
        · exact Or.inr (by rw [h, List.take_nil])
      have s1 := id_size l w1
      have s2 := id_size _ w2
      have s3 := id_size _ w3
      refine Ev.step (fun k => by simp only [certpathlaw04_OidUnder.j0]; rw [if_neg (by decide), ek, ej, hm1, hm2, Int.toNat_natCast, Int.toNat_natCast]) ?_
      refine Ev.bind (id_f l (by omega) w1) ?_
      refine Ev.congr (fun k => by rw [if_pos (by omega), if_pos (by omega)]) ?_
      refine Ev.bind (id_f _ (by rw [List.length_take]; omega) w2) ?_
      refine Ev.congr (fun k => by rw [if_pos (by omega), if_pos (by omega)]) ?_
      refine Ev.bind (id_f _ (by rw [List.length_take]; omega) w3) ?_
      refine Ev.congr (fun k => by rw [if_pos (by omega), Option.bind_some]) ?_
      refine law_loop _ _ _ (by omega) (by omega) (by omega) (under_of l l w1 w1 (List.prefix_refl _)) (under_of l _ w1 w2 p1) (under_of _ _ w2 w3 p3) (under_of l _ w1 w3 p2) _ ?_ (by simp) 7 0 (by omega) (by simp)
      intro x hx
      have sz : (ba (tex (idV l)) ++ (⟨#[48]⟩ : ByteArray)).size ≤ 300 := by rw [ByteArray.size_append]; show _ + 1 ≤ _; omega
      simp only [List.mem_cons, List.not_mem_nil, or_false] at hx
      rcases hx with rfl | rfl | rfl | rfl | rfl | rfl | rfl <;> exact ⟨by dsimp only; omega, by dsimp only; omega⟩

end Go.Proofs.YtcmmlemajlhjoaaDoor.Pure
