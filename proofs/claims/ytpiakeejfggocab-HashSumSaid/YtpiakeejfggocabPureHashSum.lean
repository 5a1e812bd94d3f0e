/- For every list of strings, Sum and Short agree with the definition (no condition). -/
import Derived.Test.YtpiakeejfggocabFew
import Derived.Test.YtpiakeejfggocabQx9
import Derived.Test.YtpiakeejfggocabRowStrs
set_option linter.unusedVariables false
set_option linter.unusedSimpArgs false
namespace Go.Proofs.Ytpiakeejfggocab.Pure
open Go Go.RowKit Go.Proofs.Ytpiakeejfggocab.Q Go.Proofs.YtpiakeejfggocabW.PrintWords Go.Proofs.YtpiakeejfggocabW.PrintLast Go.Proofs.YtpiakeejfggocabW.PrintMore Go.Proofs.Ytpiakeejfggocab.Num Go.Proofs.Ytpiakeejfggocab.Strm Go.Proofs.Ytpiakeejfggocab.Hand Go.Proofs.Ytpiakeejfggocab.RefSum

theorem rshort_ev (l : List ByteArray) (hcat : (cat l).length ≤ 1000000000) (hlen : l.length ≤ 1000000000) : Ev (fun k => certpathref01_Short.f k l) ((digest (cat l)).extract 0 16) := by
  unfold certpathref01_Short.f
  refine Ev.bind (refsum_ev l hcat hlen) ?_
  exact Ev.congr (fun k => by rw [if_pos (by decide), if_pos (by rw [digest_size]; decide)]) (Ev.now _)
theorem HashSum (l : List ByteArray) : ∃ k, certpathlaw01_HashSum.f k l = some true := by
  apply Ev.rounds
  unfold certpathlaw01_HashSum.f
  refine Ev.bind (few_ev l 20 400 (by decide)) ?_
  by_cases h : few l 20 400 = true
  · obtain ⟨h1, _, h3⟩ := few_bounds l h
    refine Ev.congr (fun k => by rw [if_pos h]) ?_
    refine Ev.bind awake_ev (Ev.congr (fun k => by rw [if_pos rfl, sum_some l (by omega) (by omega), Option.bind_some]) ?_)
    refine Ev.bind (refsum_ev l (by omega) (by omega)) (Ev.congr (fun k => by rw [if_pos rfl, short_some l (by omega) (by omega), Option.bind_some]) ?_)
    refine Ev.bind (rshort_ev l (by omega) (by omega)) (Ev.congr (fun k => by rw [beq_self_eq_true]) (Ev.now _))
  · refine Ev.congr (fun k => by rw [if_neg h]) ?_
    exact Ev.bind awake_ev (Ev.now _)
theorem HashSum_walk (A0 : Option Addr) (n c : Nat) (l : List ByteArray) (W : World) (hn : l.length = n) (hC : Kd.C Kd.string W A0 n l) (hc : n ≤ c) :
    Calls Try.prog 3 #[.slice A0 n c] W fun e W' => e = .returned (.bool true) ∧ Below W.heap.size W W' := by
  subst hn
  obtain ⟨k, hk⟩ := HashSum l
  exact certpathlaw01_HashSum.calls k A0 c l true W hC hc hk
end Go.Proofs.Ytpiakeejfggocab.Pure
