-- Written by a program of this session (wip/prn.py) out of the translation, for the seat YtcmmlemajlhjoaaDoor. Not trusted: Lean checks it.
import Derived.Test.YtcmmlemajlhjoaaDoorProg
import Derived.Below
import Derived.Deep.Draws
import Derived.Deep.AppendLies
import Derived.Maps.AppendAt
import Derived.OwnWalk
import Derived.Laws.BytesArg
import Derived.Laws.MakeOwn
import Derived.Laws.OwnMore
import Derived.Deep.OwnRows
import Derived.Tactics
import Derived.Lib.ConvBytes
import Derived.Laws.Slices
import Derived.WalkKit
import Derived.KernelRfl
import Derived.RowKit3
import Derived.Deep.LoopGhost
import Derived.Deep.QuietTactic
import Derived.BigQuiet
import Derived.WideLaws
import Derived.Deep.DeepCutAuto
import Derived.Deep.CutBlock
import Derived.Deep.RegionHeld3
import Derived.Laws.Rows
import Derived.Lib.AppendStr
import Derived.ArgAppend
import Derived.Laws.IdiomCopy
import Derived.OrdersHeld
import Derived.Laws.BitsLemmas
import Derived.RowKit
import Derived.Test.YtcmmlemajlhjoaaDoorWWords
import Derived.Test.YtcmmlemajlhjoaaDoorWLast
import Derived.Test.YtcmmlemajlhjoaaDoorWTab
import Derived.Test.YtcmmlemajlhjoaaDoorWFour
import Derived.Test.YtcmmlemajlhjoaaDoorWQPut
import Derived.Test.YtcmmlemajlhjoaaDoorWApart
import Derived.Test.YtcmmlemajlhjoaaDoorWArr
import Derived.Test.YtcmmlemajlhjoaaDoorWZeros
import Derived.Test.YtcmmlemajlhjoaaDoorWFoot
import Derived.Test.YtcmmlemajlhjoaaDoorWKept
import Derived.Test.YtcmmlemajlhjoaaDoorWShare
import Derived.Test.YtcmmlemajlhjoaaDoorWN
import Derived.Test.YtcmmlemajlhjoaaDoorWFootNe
import Derived.Test.YtcmmlemajlhjoaaDoorWAt
import Derived.Test.YtcmmlemajlhjoaaDoorWEqStruct
import Derived.Test.YtcmmlemajlhjoaaDoorWRepsOne
import Derived.Test.YtcmmlemajlhjoaaDoorWInv
import Derived.Test.YtcmmlemajlhjoaaDoorWInvWords
import Derived.Test.YtcmmlemajlhjoaaDoorWGuard
import Derived.Test.YtcmmlemajlhjoaaDoorWNEv
import Derived.Test.YtcmmlemajlhjoaaDoorWMore
import Derived.Test.YtcmmlemajlhjoaaDoorExtR
import Derived.Test.YtcmmlemajlhjoaaDoorHandR
namespace Go.Proofs.YtcmmlemajlhjoaaDoor.Q
open Go.RowKit Go.Proofs.YtcmmlemajlhjoaaDoorW.PrintWords Go.Proofs.YtcmmlemajlhjoaaDoorW.PrintLast Go.Proofs.YtcmmlemajlhjoaaDoorW.PrintMore
attribute [local go_sem] max2_int min2_int max_two min_two max_three min_three max_four min_four   -- for this text's walks alone
set_option linter.unusedVariables false
set_option linter.unusedSimpArgs false



def errW : Option Int → Value
  | none => .nilIface
  | some c => .iface 0 (.int .i64 c)
theorem errW_none : errW none = .nilIface := rfl
theorem errW_some (c : Int) : errW (some c) = .iface 0 (.int .i64 c) := rfl

theorem info3 : (Tryd.prog.info? 3).map (fun i => (i.zero, i.size, i.bytes)) = some (some (.int .i64 0), 1, 8) := by kernel_rfl
theorem info5 : (Tryd.prog.info? 5).map (fun i => (i.zero, i.size, i.bytes)) = some (some (.int .u8 0), 1, 1) := by kernel_rfl
theorem info9 : (Tryd.prog.info? 9).map (fun i => (i.zero, i.size, i.bytes)) = some (some (.string ⟨#[]⟩), 1, 16) := by kernel_rfl
-- the values' own types

end Go.Proofs.YtcmmlemajlhjoaaDoor.Q
