/- For all lists of numbers and every string, the program's Less agrees with the document's definition, and is a strict total order on the identifiers that the law makes (no condition beside the form's own). -/
import Derived.Test.YtcmmlemajlhjoaaDoorQx18
import Derived.Test.YtcmmlemajlhjoaaDoorOidId
set_option linter.unusedVariables false
set_option linter.unusedSimpArgs false
namespace Go.Proofs.YtcmmlemajlhjoaaDoor.Pure
open Go Go.RowKit Go.Proofs.YtcmmlemajlhjoaaDoor.Q Go.Proofs.YtcmmlemajlhjoaaDoorW.PrintWords Go.Proofs.YtcmmlemajlhjoaaDoorW.PrintLast Go.Proofs.YtcmmlemajlhjoaaDoorW.PrintMore Go.Proofs.YtcmmlemajlhjoaaDoor.Num Go.Proofs.YtcmmlemajlhjoaaDoor.Str Go.Proofs.YtcmmlemajlhjoaaDoor.Oid

theorem j1_true (a b : ByteArray) (x y : List Int) (ha : a.size ≤ 100000) (hb : b.size ≤ 100000) (hx : arcsS a = some x) (hy : arcsS b = some y) (hab : x = y → a = b) : Ev (fun k => certpathlaw04_OidOrder.j1 k a b true) true := by
  have l1 : lessS a a = false := by unfold lessS; rw [hx]; exact lex_irr x
  have l2 : lessS a b = lexL x y := by unfold lessS; rw [hx, hy]
  have l3 : lessS b a = lexL y x := by unfold lessS; rw [hx, hy]
  refine Ev.step (fun k => by simp only [certpathlaw04_OidOrder.j1]; rfl) ?_
  refine Ev.bind awake_true ?_
  refine Ev.congr (fun k => by rw [if_pos rfl, if_pos trivial]) ?_
  refine Ev.bind (less_p a a ha ha) ?_
  rw [l1]
  refine Ev.congr (fun k => by rw [if_neg (by decide)]) ?_
  refine Ev.bind (less_p a b ha hb) (Ev.bind (less_p b a hb ha) ?_)
  rw [l2, l3]
  refine cast_ev (Ev.now _) ?_
  by_cases e : x = y
  · have := hab e
    subst this
    subst e
    rw [lex_irr]
    simp
  · have hne : ¬ a = b := by
      intro h
      subst h
      rw [hx] at hy
      exact e (Option.some.inj hy)
    have : (a.toList == b.toList) = false := by
      rw [beq_eq_false_iff_ne]
      intro h
      rw [toList_L, toList_L] at h
      exact hne (ext_L h)
    rw [this, lex_tri x y e]; rfl
theorem law_loop (a b c : ByteArray) (x y z : List Int) (ha : a.size ≤ 100000) (hb : b.size ≤ 100000) (hc : c.size ≤ 100000) (hx : arcsS a = some x) (hy : arcsS b = some y) (hz : arcsS c = some z) (hab : x = y → a = b)
    (xs : List S33) (hxs : ∀ x ∈ xs, x.f0.size ≤ 80000 ∧ x.f1.size ≤ 80000) (hl : xs.length < 100) : ∀ (d : Nat) (i : Int), 0 ≤ i → (xs.length : Int) - i = d →
    Ev (fun k => certpathlaw04_OidOrder.l0 k a b c xs xs.length i) true
  | 0, i, h0, hd => by
    have j := j1_true a b x y ha hb hx hy hab
    refine Ev.step (f := fun k => _) (fun k => by simp only [certpathlaw04_OidOrder.l0]; rw [if_neg (by omega)]) ?_
    refine Ev.bind (less_p a b ha hb) ?_
    by_cases h1 : lessS a b = true
    · rw [h1]
      refine Ev.congr (fun k => by rw [if_pos rfl]) ?_
      refine Ev.bind (less_p b c hb hc) ?_
      by_cases h2 : lessS b c = true
      · rw [h2]
        refine Ev.congr (fun k => by rw [if_pos rfl]) ?_
        refine Ev.bind (less_p a c ha hc) ?_
        have : lessS a c = true := by
          unfold lessS at h1 h2 ⊢
          rw [hx, hy] at h1
          rw [hy, hz] at h2
          rw [hx, hz]
          exact lex_trans x y z h1 h2
        rw [this]
        exact j
      · rw [Bool.eq_false_iff.2 h2]
        exact Ev.congr (fun k => by rw [if_neg (by decide)]) j
    · rw [Bool.eq_false_iff.2 h1]
      exact Ev.congr (fun k => by rw [if_neg (by decide)]) j
  | d + 1, i, h0, hd => by
    have hs : (rd_T33 xs i).f0.size ≤ 80000 ∧ (rd_T33 xs i).f1.size ≤ 80000 := by
      refine hxs _ ?_
      unfold rd_T33
      rw [List.getD_eq_getElem?_getD, List.getElem?_eq_getElem (by omega)]
      exact List.getElem_mem _
    generalize hxe : rd_T33 xs i = p at hs
    obtain ⟨u, v⟩ := p
    obtain ⟨h1, h2⟩ := hs
    have h1' : u.size ≤ 80000 := h1
    have h2' : v.size ≤ 80000 := h2
    refine Ev.step (fun k => by simp only [certpathlaw04_OidOrder.l0]; rw [if_pos (by omega), if_pos h0, if_pos (by omega), w64 (i + 1) (by omega) (by omega), hxe]) ?_
    refine Ev.bind (less_p u v (by omega) (by omega)) (Ev.bind (less_r u v (by omega) (by omega)) ?_)
    rw [bne_self_eq_false]
    refine Ev.congr (fun k => by rw [if_neg (by decide)]) ?_
    exact law_loop a b c x y z ha hb hc hx hy hz hab xs hxs hl d (i + 1) (by omega) (by omega)
theorem u32_range (l : List Int) (h : ∀ x ∈ l, (Lit.int .u32 x).wf = true) : ∀ x ∈ l, 0 ≤ x ∧ x ≤ 4294967295 := by
  intro x hx
  have := h x hx
  simp [Lit.wf, IntKind.min, IntKind.max, IntKind.bits, IntKind.signed] at this; omega
theorem cast_inj (u v : List Nat) (h : u.map (fun v : Nat => (v : Int)) = v.map (fun v : Nat => (v : Int))) : u = v := by
  have := congrArg (List.map Int.toNat) h
  rw [List.map_map, List.map_map] at this
  have e : (Int.toNat ∘ fun v : Nat => (v : Int)) = id := by funext n; simp
  rw [e, List.map_id, List.map_id] at this
  exact this
theorem OidOrder : certpathlaw04_OidOrder.Pure := by
  intro l m n s _ hl h8 _ hm m8 _ hn n8 hs
  apply Ev.rounds
  unfold certpathlaw04_OidOrder.f
  by_cases h : (s.size : Int) > 200
  · refine Ev.congr (fun k => by rw [if_pos h]) ?_
    exact Ev.bind awake_true (Ev.now _)
  · refine Ev.congr (fun k => by rw [if_neg h]) ?_
    have w1 := u32_range l h8
    have w2 := u32_range m m8
    have w3 := u32_range n n8
    refine Ev.bind (id_f l (by omega) w1) (Ev.bind (id_f m (by omega) w2) (Ev.bind (id_f n (by omega) w3) ?_))
    have s1 := id_size l w1
    have s2 := id_size m w2
    have s3 := id_size n w3
    refine Ev.congr (fun k => by rw [Option.bind_some]) ?_
    refine law_loop _ _ _ _ _ _ (by omega) (by omega) (by omega) (id_arcs l w1) (id_arcs m w2) (id_arcs n w3) (fun e => by rw [cast_inj _ _ e]) _ ?_ (by simp) 5 0 (by omega) (by simp)
    intro x hx
    simp only [List.mem_cons, List.not_mem_nil, or_false] at hx
    rcases hx with rfl | rfl | rfl | rfl | rfl <;> exact ⟨by dsimp only; omega, by dsimp only; omega⟩

end Go.Proofs.YtcmmlemajlhjoaaDoor.Pure
