/- Small words of this session's own beside the printed words: a string made of a row that may begin inside its block. -/
import Derived.Test.YtpiakeejfggocaaWMore
set_option linter.unusedVariables false
namespace Go.Proofs.Ytpiakeejfggocaa.Ext
open Go Go.RowKit Go.Proofs.YtpiakeejfggocaaW.PrintWords Go.Proofs.YtpiakeejfggocaaW.PrintLast Go.Proofs.YtpiakeejfggocaaW.PrintMore
theorem q_string {P : Program} {w : World} {src dst e e' : TypeId} {base : Nat} {ok : Nat → Prop} {v : Value} {xs : List Int} (hs : P.underlying src = some (.slice e)) (he : P.underlying e = some (.int .u8)) (hd : P.underlying dst = some .string)
    (h : (Kd.int .u8).Q e' w base ok v xs) : (convert src dst v).run P w = .ok (.string (strOfNums xs)) w := by
  obtain ⟨A, c, rfl, hl⟩ := Kd.Q_slice h
  exact Kd.C_string hs he hd (Kd.Q_reads' h).2.2
end Go.Proofs.Ytpiakeejfggocaa.Ext
