/- Small words of this session's own beside the printed words: a string made of a row that may begin inside its block; what is asked of the world. -/
import Derived.Test.YtegmenlonpgnpaaDoorWMore
set_option linter.unusedVariables false
namespace Go.Proofs.YtegmenlonpgnpaaDoor.Ext
open Go Go.RowKit Go.Proofs.YtegmenlonpgnpaaDoorW.PrintWords Go.Proofs.YtegmenlonpgnpaaDoorW.PrintLast Go.Proofs.YtegmenlonpgnpaaDoorW.PrintMore
theorem q_string {P : Program} {w : World} {src dst e e' : TypeId} {base : Nat} {ok : Nat → Prop} {v : Value} {xs : List Int} (hs : P.underlying src = some (.slice e)) (he : P.underlying e = some (.int .u8)) (hd : P.underlying dst = some .string)
    (h : (Kd.int .u8).Q e' w base ok v xs) : (convert src dst v).run P w = .ok (.string (strOfNums xs)) w := by
  obtain ⟨A, c, rfl, hl⟩ := Kd.Q_slice h
  exact Kd.C_string hs he hd (Kd.Q_reads' h).2.2
/-- The variable internal/bytealg.MaxLen holds some integer. -/
structure G (w : World) : Prop where mk :: (out : ∃ m : Int, w.cell? ⟨0, 0, none⟩ = some (.int .i64 m))
theorem G.step {w W : World} (h : Below w.heap.size w W) (g : G w) : G W := by
  obtain ⟨m, hm⟩ := g.out
  exact ⟨m, pw_cell_below h hm⟩
theorem G.drewN {w : World} {n : Nat} (g : G w) : G (w.drewN n) := ⟨g.out⟩
theorem G.drew {w : World} (g : G w) : G w.drew := ⟨g.out⟩
end Go.Proofs.YtegmenlonpgnpaaDoor.Ext
