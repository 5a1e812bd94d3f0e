/- Contracts of this session's own: library functions by the shelf's contracts. -/
import Derived.Test.YtcmmlemajlhjoaaDoorProg
import Derived.Test.YtcmmlemajlhjoaaDoorExt
import Derived.Test.YtcmmlemajlhjoaaDoorShelf
import Derived.Below
import Derived.Tactics
import Derived.WalkKit
import Derived.KernelRfl
import Derived.RowKit3
import Derived.Deep.QuietTactic
import Derived.BigQuiet
import Derived.Lib.ConvBytes
import Derived.Lib.Hide
import Derived.LoopTactic
import Derived.RowKit
set_option linter.unusedVariables false
set_option linter.unusedSimpArgs false
namespace Go.Proofs.YtcmmlemajlhjoaaDoor.Hand
open Go Go.RowKit Go.Proofs.YtcmmlemajlhjoaaDoorW.PrintWords Go.Proofs.YtcmmlemajlhjoaaDoorW.PrintLast Go.Proofs.YtcmmlemajlhjoaaDoorW.PrintMore

def strings_Split.f (s t : ByteArray) : Option (List ByteArray) := if s.size < 4294967281 then (if 1 ≤ t.size then some (Go.Lib.splitB t 0 (Go.Lib.countB s t) s) else none) else none
theorem strings_Split.calls (s t : ByteArray) (r : List ByteArray) (w : World) (hG_ : Ext.G w) (h : strings_Split.f s t = some r) :
    Calls Tryd.prog 29 #[.string s, .string t] w fun e w' => ∃ v0_ : Value, e = .returned (v0_) ∧ Kd.R Kd.string 9 w' w.heap.size (fun _ => True) v0_ r ∧ Below w.heap.size w w' := by
  unfold strings_Split.f at h
  split at h
  · rename_i hs
    split at h
    · rename_i ht
      obtain rfl := Option.some.inj h
      obtain ⟨m, hm⟩ := hG_.out
      refine (Tryd.strings_Split s t m w hs hm ht).mono ?_
      rintro e w' ⟨rfl, rfl⟩
      have hlen := Go.Lib.splitB_all t ht 0 _ s rfl
      have hle := Go.Lib.countB_le t ht s.size s (Nat.le_refl _)
      refine ⟨_, rfl, ?_, below_alloc (Below.refl _ _) _⟩
      rw [← hlen]
      exact Kd.R_of_own (own_lit_of (enc := Value.string) w w.heap.size 9 _ (Nat.le_refl _) (by omega)) (fun _ _ => trivial)
    · cases h
  · cases h

end Go.Proofs.YtcmmlemajlhjoaaDoor.Hand
