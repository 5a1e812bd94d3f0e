/- For all strings, lists of bytes and numbers: Address, Range and AddressWithin agree with the document's definition, also for ranges with masks of any length (no condition beside the form's own). -/
import Derived.Test.YtegmenlonpgnpaaDoorRx9
import Derived.Test.YtegmenlonpgnpaaDoorHostR
import Derived.Test.YtegmenlonpgnpaaDoorNetWR
set_option linter.unusedVariables false
set_option linter.unusedSimpArgs false
namespace Go.Proofs.YtegmenlonpgnpaaDoor.Pure
open Go Go.RowKit Go.Proofs.YtegmenlonpgnpaaDoor.Q Go.Proofs.YtegmenlonpgnpaaDoorW.PrintWords Go.Proofs.YtegmenlonpgnpaaDoorW.PrintLast Go.Proofs.YtegmenlonpgnpaaDoorW.PrintMore Go.Proofs.YtegmenlonpgnpaaDoor.Num Go.Proofs.YtegmenlonpgnpaaDoor.Str Go.Proofs.YtegmenlonpgnpaaDoor.Net

theorem pairs_loop (x : ByteArray) (hx : rangeS x = true) (xs : List S29) (hl : xs.length ≤ 100) : ∀ (d i : Nat), i + d = xs.length → Ev (fun k => certpathlaw08_HostAddress.l0 k x xs xs.length i) true
  | 0, i, h => by
    refine Ev.step (f := fun k => _) (fun k => by simp only [certpathlaw08_HostAddress.l0]; rw [if_neg (by omega)]) ?_
    refine Ev.bind Host.awake_true ?_
    refine Ev.congr (fun k => by rw [if_pos rfl]) ?_
    exact Ev.bind (range_p x) (cast_ev (Ev.now _) hx)
  | d + 1, i, h => by
    have ih := pairs_loop x hx xs hl d (i + 1) (by omega)
    generalize hp : rd_T29 xs (i : Int) = p
    refine Ev.step (fun k => by
      simp only [certpathlaw08_HostAddress.l0]
      rw [if_pos (by omega), if_pos (by omega), if_pos (by omega), hp, addr_p, addr_r, Option.bind_some, Option.bind_some, bne_self_eq_false, if_neg (by decide), w64 _ (by omega) (by omega)]) ?_
    refine Ev.bind (range_p p.f0) (Ev.bind (range_r p.f0) ?_)
    rw [bne_self_eq_false]
    refine Ev.congr (fun k => by rw [if_neg (by decide)]) ?_
    refine Ev.bind (aw_p p.f0 p.f1) (Ev.bind (aw_r p.f0 p.f1) ?_)
    rw [bne_self_eq_false]
    exact Ev.congr (fun k => by rw [if_neg (by decide)]; rfl) ih
theorem HostAddress : certpathlaw08_HostAddress.Pure := by
  intro s t a b bits_ more wide hs ht hal ha1 ha8 hbl hb1 hb8 hbits hmore
  have by8 : ∀ l : List Int, (∀ x ∈ l, (Lit.int .u8 x).wf = true) → ∀ x ∈ l, 0 ≤ x ∧ x < 256 := by
    intro l h x hx
    have h := h x hx
    simp [Lit.wf, IntKind.min, IntKind.max, IntKind.bits, IntKind.signed] at h
    omega
  simp [Lit.wf, IntKind.min, IntKind.max, IntKind.bits, IntKind.signed] at hbits hmore
  apply Ev.rounds
  have idle : Ev (fun k => certpathlaw08_HostAddress.j0 k s t a b bits_ more wide true) true := by
    refine Ev.step (f := fun k => _) (fun k => by simp only [certpathlaw08_HostAddress.j0]; rw [if_pos trivial]) ?_
    exact Ev.bind Host.awake_true (Ev.now _)
  unfold certpathlaw08_HostAddress.f
  by_cases h1 : (s.size : Int) > 60
  · exact Ev.congr (fun k => by rw [if_pos h1]) idle
  · refine Ev.congr (fun k => by rw [if_neg h1]) ?_
    by_cases h2 : (t.size : Int) > 60
    · exact Ev.congr (fun k => by rw [if_pos h2]) idle
    · refine Ev.congr (fun k => by rw [if_neg h2]) ?_
      by_cases h3 : (a.length : Int) > 16
      · exact Ev.congr (fun k => by rw [if_pos h3]) idle
      · refine Ev.congr (fun k => by rw [if_neg h3]) ?_
        by_cases h4 : (b.length : Int) > 16
        · rw [decide_eq_true h4]; exact idle
        · rw [decide_eq_false h4]
          have hw : wid wide = 4 ∨ wid wide = 16 := by cases wide <;> decide
          have ha := by8 a ha8
          have hb := by8 b hb8
          refine Ev.step (fun k => by simp only [certpathlaw08_HostAddress.j0]; rw [if_neg (by decide)]) ?_
          refine Ev.bind (net_f a ha (by omega) bits_ (by omega) (by omega) wide) ?_
          refine Ev.bind (net_f a ha (by omega) more (by omega) (by omega) wide) ?_
          refine Ev.bind (net_f b hb (by omega) more (by omega) (by omega) wide) ?_
          have hsz := net_size (wid wide) a (nb wide bits_)
          have hrg := net_range (wid wide) hw a (nb wide bits_)
          generalize netS (wid wide) a (nb wide bits_) = x at *
          have hh : wrap64 ((x.size : Int) / 2) = (wid wide : Int) := by rw [w64 _ (by omega) (by omega)]; omega
          refine Ev.congr (fun k => by rw [hh, if_pos (by omega), if_pos (by omega), Option.bind_some]) ?_
          exact pairs_loop x hrg _ (by simp) 8 0 rfl
end Go.Proofs.YtegmenlonpgnpaaDoor.Pure
