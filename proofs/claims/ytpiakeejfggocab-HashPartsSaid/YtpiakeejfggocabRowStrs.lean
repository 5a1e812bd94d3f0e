/- A slice of strings among a law's arguments, read as one list. -/
import Derived.Test.YtpiakeejfggocabWMore
import Derived.SliceStrings
set_option linter.unusedVariables false
namespace Go.Proofs.Ytpiakeejfggocab.RowStrs
open Go Go.RowKit Go.ChangeShapes Go.WideShapes Go.Proofs.YtpiakeejfggocabW.PrintWords Go.Proofs.YtpiakeejfggocabW.PrintLast Go.Proofs.YtpiakeejfggocabW.PrintMore
theorem strings_row {H : Type} {enc : TypeId × Value → H} {P : Program} {w : World} {base : Nat} {spare : Nat → Bool} {held : Bool} {t e : TypeId} {fuel : Nat} {a : Option Addr} {len cap : Nat} {x : DataW H × List MemPlace} (ht : P.underlying t = some (.slice e)) (he : P.underlying e = some .string) (hc : P.cellsOf e = 1)
    (h : DataW.trod enc P w base spare held fuel t [.slice a len cap] = some x) : ∃ zs : List ByteArray, zs.length = len ∧ Kd.C Kd.string w a len zs ∧ len ≤ cap := by
  rcases open_strings ht he hc h with ⟨hcs, _⟩ | ⟨ad, l, c, ss, hcs, _, hl, hm, hz, _, hcell, hwz⟩
  · injection hcs with hcs _
    injection hcs with h1 h2 h3
    subst h1
    subst h2
    subst h3
    exact ⟨[], rfl, Kd.C_nil _ _, Nat.le_refl _⟩
  · injection hcs with hcs _
    injection hcs with h1 h2 h3
    subst h1
    subst h2
    subst h3
    have hlen : len ≤ ss.length := by rw [hz]; split <;> omega
    have hl2 : (ss.take len).length = len := by rw [List.length_take]; omega
    refine ⟨ss.take len, hl2, ?_, hl⟩
    refine Kd.C_of_reads (d := ByteArray.empty) (h1 := fun _ => rfl) ⟨hl2, by simp only [maxLen] at hm; omega, fun _ => ⟨ad, rfl, fun j hj => ?_⟩⟩
    rw [hcell j (by omega)]
    congr 2
    rw [List.getD_eq_getElem?_getD, List.getD_eq_getElem?_getD, List.getElem?_take_of_lt hj]
end Go.Proofs.Ytpiakeejfggocab.RowStrs
