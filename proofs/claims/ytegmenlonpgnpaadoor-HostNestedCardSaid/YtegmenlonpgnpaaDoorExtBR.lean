/- Small words of this session's own: behind []byte(s) what was there stays. -/
import Derived.Test.YtegmenlonpgnpaaDoorExtR
set_option linter.unusedVariables false
namespace Go.Proofs.YtegmenlonpgnpaaDoor.Ext
open Go Go.RowKit Go.Proofs.YtegmenlonpgnpaaDoorW.PrintWords Go.Proofs.YtegmenlonpgnpaaDoorW.PrintLast Go.Proofs.YtegmenlonpgnpaaDoorW.PrintMore
theorem below_bytes {w W : World} {e : TypeId} {s : ByteArray} (h : Below w.heap.size w W) : Below w.heap.size w (Lib.bytesWorld W e s) := bytes_below h h.size e s
end Go.Proofs.YtegmenlonpgnpaaDoor.Ext
