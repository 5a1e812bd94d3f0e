/- The examples of the chapter hold. -/
import Derived.Test.YtpiakeejfggocabHandSum
import Derived.Test.YtpiakeejfggocabQx6
import Derived.KernelRfl
set_option linter.unusedVariables false
set_option linter.unusedSimpArgs false
namespace Go.Proofs.Ytpiakeejfggocab.Pure
open Go Go.RowKit Go.Proofs.Ytpiakeejfggocab.Q Go.Proofs.YtpiakeejfggocabW.PrintWords Go.Proofs.YtpiakeejfggocabW.PrintLast Go.Proofs.YtpiakeejfggocabW.PrintMore Go.Proofs.Ytpiakeejfggocab.Num Go.Proofs.Ytpiakeejfggocab.Strm Go.Proofs.Ytpiakeejfggocab.Hand

theorem dig0 : digest (cat []) = ⟨#[227,176,196,66,152,252,28,20,154,251,244,200,153,111,185,36,39,174,65,228,100,155,147,76,164,149,153,27,120,82,184,85]⟩ := by kernel_rfl
theorem dig1 : (digest (cat [⟨#[97]⟩, ⟨#[98, 99]⟩])).extract 0 16 = ⟨#[186, 120, 22, 191, 143, 1, 207, 234, 65, 65, 64, 222, 93, 174, 34, 35]⟩ := by kernel_rfl
theorem short_some (l : List ByteArray) (hcat : (cat l).length ≤ 1000000000) (hlen : l.length ≤ 1000000000) : hash_Short.f l = some ((digest (cat l)).extract 0 16) := by
  unfold hash_Short.f
  rw [sum_some l hcat hlen, Option.bind_some, if_pos (by decide), if_pos (by rw [digest_size]; decide)]
theorem awake_ev : Ev (fun k => certpathlaw01_awake.f k) true :=
  Ev.of certpathlaw01_awake.mono (k := 40) (by
    unfold certpathlaw01_awake.f
    rw [sum_some [] (by decide) (by decide), Option.bind_some, dig0]
    have e1 : hash_Hex.f 40 ⟨#[227,176,196,66,152,252,28,20,154,251,244,200,153,111,185,36,39,174,65,228,100,155,147,76,164,149,153,27,120,82,184,85]⟩ = some ⟨#[101, 51, 98, 48, 99, 52, 52, 50, 57, 56, 102, 99, 49, 99, 49, 52, 57, 97, 102, 98, 102, 52, 99, 56, 57, 57, 54, 102, 98, 57, 50, 52, 50, 55, 97, 101, 52, 49, 101, 52, 54, 52, 57, 98, 57, 51, 52, 99, 97, 52, 57, 53, 57, 57, 49, 98, 55, 56, 53, 50, 98, 56, 53, 53]⟩ := by kernel_rfl
    rw [e1, Option.bind_some, if_pos (by rw [Lib.toList_data]), short_some _ (by decide) (by decide), Option.bind_some, dig1]
    have e2 : hash_Hex.f 40 ⟨#[186, 120, 22, 191, 143, 1, 207, 234, 65, 65, 64, 222, 93, 174, 34, 35]⟩ = some ⟨#[98, 97, 55, 56, 49, 54, 98, 102, 56, 102, 48, 49, 99, 102, 101, 97, 52, 49, 52, 49, 52, 48, 100, 101, 53, 100, 97, 101, 50, 50, 50, 51]⟩ := by kernel_rfl
    rw [e2, Option.bind_some, Lib.toList_data]
    rfl)
end Go.Proofs.Ytpiakeejfggocab.Pure
