/- For every list of numbers and every string, Decode inverts Encode, and what Decode accepts is what Encode writes (no condition beside the form's own). -/
import Derived.Test.YtcmmlemajlhjoaaDoorRx15
import Derived.Test.YtcmmlemajlhjoaaDoorOidRtR
set_option linter.unusedVariables false
set_option linter.unusedSimpArgs false
namespace Go.Proofs.YtcmmlemajlhjoaaDoor.Pure
open Go Go.RowKit Go.Proofs.YtcmmlemajlhjoaaDoor.Q Go.Proofs.YtcmmlemajlhjoaaDoorW.PrintWords Go.Proofs.YtcmmlemajlhjoaaDoorW.PrintLast Go.Proofs.YtcmmlemajlhjoaaDoorW.PrintMore Go.Proofs.YtcmmlemajlhjoaaDoor.Num Go.Proofs.YtcmmlemajlhjoaaDoor.Str Go.Proofs.YtcmmlemajlhjoaaDoor.Oid

theorem back_c (c : ByteArray) (hc : c.size ≤ 100000) : Ev (fun k => certpathlaw04_OidBack.j0 k c false) true := by
  refine Ev.step (fun k => by simp only [certpathlaw04_OidBack.j0]; rw [if_neg (by decide)]) ?_
  refine Ev.bind (dec_p c hc) ?_
  cases hd : decS (grps false 0 (bytesOf c)) with
  | none =>
    refine Ev.congr (fun k => by rw [if_neg (by decide)]) ?_
    exact Ev.bind awake_true (Ev.now _)
  | some vs =>
    obtain ⟨hg, he⟩ := written_read c vs hd
    obtain ⟨ha, hs⟩ := good_arcs vs hg
    refine Ev.congr (fun k => by rw [if_pos (by rfl)]) ?_
    refine Ev.bind (enc_p (ba (tex vs)) (by omega)) ?_
    rw [ha]
    have eo : outS (some (ints vs)) = (c, 0) := by
      have : outS (some (ints vs)) = (strOfNums (encS (ints vs)), 0) := rfl
      rw [this, he]
    rw [eo]
    refine Ev.congr (fun k => by rw [if_pos rfl, if_pos rfl]) ?_
    refine Ev.bind (valid_p (ba (tex vs)) (by omega)) ?_
    rw [ha]
    refine Ev.congr (fun k => by rw [if_pos (by rfl)]) ?_
    exact Ev.bind awake_true (Ev.now _)
theorem OidBack : certpathlaw04_OidBack.Pure := by
  intro l c hl hl4 h32 hc
  have hw : ∀ x ∈ l, 0 ≤ x ∧ x ≤ 4294967295 := by
    intro x hx
    have h := h32 x hx
    simp [Lit.wf, IntKind.min, IntKind.max, IntKind.bits, IntKind.signed] at h
    omega
  apply Ev.rounds
  unfold certpathlaw04_OidBack.f
  by_cases h : (c.size : Int) > 100
  · refine Ev.congr (fun k => by rw [if_pos h]) ?_
    exact Ev.bind awake_true (Ev.now _)
  · refine Ev.congr (fun k => by rw [if_neg h]) ?_
    have hg : good (idV l) := idV_facts l hw
    obtain ⟨ha, hs⟩ := good_arcs _ hg
    obtain ⟨hr, hrs⟩ := read_written _ hg
    refine Ev.bind (id_f l (by omega) hw) ?_
    refine Ev.bind (enc_p _ (by omega)) ?_
    rw [ha]
    have eo : outS (some (ints (idV l))) = (strOfNums (encS (ints (idV l))), 0) := rfl
    rw [eo]
    refine Ev.bind (dec_p _ (by show (strOfNums (encS (ints (idV l)))).size ≤ _; omega)) ?_
    have er : decS (grps false 0 (bytesOf (strOfNums (encS (ints (idV l))), (0 : Int)).1)) = some (idV l) := hr
    rw [er]
    have e0 : (outT (some (idV l))).2 = 0 := rfl
    refine Ev.congr (fun k => by rw [if_pos rfl, if_pos e0]) ?_
    have en : ((outT (some (idV l))).1.toList != (ba (tex (idV l))).toList) = false := bne_self_eq_false _
    rw [en]
    exact back_c c (by omega)
end Go.Proofs.YtcmmlemajlhjoaaDoor.Pure
