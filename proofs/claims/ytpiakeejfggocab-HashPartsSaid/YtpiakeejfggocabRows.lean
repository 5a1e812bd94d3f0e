/-
  No cell of these rows narrows 'for every input' (looked for: loops, veiled, ifaces, maps, wideKeys, modest, calm, conditions, laid).
  DERIVED. THE GIVEN ROWS OF THIS SEAT. 5 by the template 'for every input the law returns true; each argument reads behind the call as it read before'; 0 by the template 'total and deterministic' (their statements: YtpiakeejfggocabTotals.lean).
  GIVEN WITH THE SEED: the statements are not yours to turn. If you find one false, say at which input.
  Laid BY PROGRAM, IN A SANDBOX (cutbox-rows.mjs): the forced cells as the released guide's own fill.sh prints them over the translation 3fb9ff4b69a5d016… (all of the seat's roots in one cut). By AI agents, Wed Nov 11 2026. No macro, syntax, notation, axiom, sorry.
-/
import Derived.Test.YtpiakeejfggocabChecked
import GoSem.Claim
import GoSem.ClaimJoined
import GoSem.ClaimMapViews
import Derived.JoinedTies
import Derived.KernelRfl
namespace Go.Proofs.Ytpiakeejfggocab
/- THE CELL 'sum', in the pinned program and in every row, IS THE sha256 OF THE DUMP (.gsa) THAT YtpiakeejfggocabProg.lean LOADS. Nothing in Lean hashes anything: it is a label: what it is worth is what the hold of that sum in a sandbox is worth. -/
noncomputable def Try.pinned : Pinned := { name := "ytpiakeejfggocab", sum := "3fb9ff4b69a5d016a6da90de62155ef7fa894101666902a78b4df380ef261672", checked := Try.checked }
namespace Rows
def none {H : Type} : Left H := { results := [], args := [] }

/-- 'certpathlaw01.HashSum': WHATEVER THE INPUT: true; the input reads as it did. -/
def hashSumSpec : ChangeSpec := { name := "hashSum", fn := fun _ => fun
  | [d] => { results := [.lit (.bool true)], args := [d] }
  | _ => none }
def hashSumRow : OpenClaim := { program := "ytpiakeejfggocab", sum := "3fb9ff4b69a5d016a6da90de62155ef7fa894101666902a78b4df380ef261672", func := "certpath/certpathlaw01.HashSum", spec := "hashSum", apart := false }
def HashSumSaid : Prop := hashSumRow.holds Try.pinned (OpenSpec.ofChange hashSumSpec)

/-- ITS FALSE NEIGHBOUR: 'it returns false'. Refute it at one input. -/
def hashSumWrong : ChangeSpec := { name := "hashSum", fn := fun _ => fun
  | [d] => { results := [.lit (.bool false)], args := [d] }
  | _ => none }
def HashSumWrongFalsely : Prop := hashSumRow.holds Try.pinned (OpenSpec.ofChange hashSumWrong)

/-- 'certpathlaw01.HashLengths': WHATEVER THE INPUT: true; the input reads as it did. -/
def hashLengthsSpec : ChangeSpec := { name := "hashLengths", fn := fun _ => fun
  | [d1, d2] => { results := [.lit (.bool true)], args := [d1, d2] }
  | _ => none }
def hashLengthsRow : OpenClaim := { program := "ytpiakeejfggocab", sum := "3fb9ff4b69a5d016a6da90de62155ef7fa894101666902a78b4df380ef261672", func := "certpath/certpathlaw01.HashLengths", spec := "hashLengths", apart := false }
def HashLengthsSaid : Prop := hashLengthsRow.holds Try.pinned (OpenSpec.ofChange hashLengthsSpec)

/-- ITS FALSE NEIGHBOUR: 'it returns false'. Refute it at one input. -/
def hashLengthsWrong : ChangeSpec := { name := "hashLengths", fn := fun _ => fun
  | [d1, d2] => { results := [.lit (.bool false)], args := [d1, d2] }
  | _ => none }
def HashLengthsWrongFalsely : Prop := hashLengthsRow.holds Try.pinned (OpenSpec.ofChange hashLengthsWrong)

/-- 'certpathlaw01.HashParts': WHATEVER THE INPUT: true; the input reads as it did. -/
def hashPartsSpec : ChangeSpec := { name := "hashParts", fn := fun _ => fun
  | [d1, d2] => { results := [.lit (.bool true)], args := [d1, d2] }
  | _ => none }
def hashPartsRow : OpenClaim := { program := "ytpiakeejfggocab", sum := "3fb9ff4b69a5d016a6da90de62155ef7fa894101666902a78b4df380ef261672", func := "certpath/certpathlaw01.HashParts", spec := "hashParts", apart := false }
def HashPartsSaid : Prop := hashPartsRow.holds Try.pinned (OpenSpec.ofChange hashPartsSpec)

/-- ITS FALSE NEIGHBOUR: 'it returns false'. Refute it at one input. -/
def hashPartsWrong : ChangeSpec := { name := "hashParts", fn := fun _ => fun
  | [d1, d2] => { results := [.lit (.bool false)], args := [d1, d2] }
  | _ => none }
def HashPartsWrongFalsely : Prop := hashPartsRow.holds Try.pinned (OpenSpec.ofChange hashPartsWrong)

/-- 'certpathlaw01.HashStream': WHATEVER THE INPUT: true; the input reads as it did. -/
def hashStreamSpec : ChangeSpec := { name := "hashStream", fn := fun _ => fun
  | [d] => { results := [.lit (.bool true)], args := [d] }
  | _ => none }
def hashStreamRow : OpenClaim := { program := "ytpiakeejfggocab", sum := "3fb9ff4b69a5d016a6da90de62155ef7fa894101666902a78b4df380ef261672", func := "certpath/certpathlaw01.HashStream", spec := "hashStream", apart := false }
def HashStreamSaid : Prop := hashStreamRow.holds Try.pinned (OpenSpec.ofChange hashStreamSpec)

/-- ITS FALSE NEIGHBOUR: 'it returns false'. Refute it at one input. -/
def hashStreamWrong : ChangeSpec := { name := "hashStream", fn := fun _ => fun
  | [d] => { results := [.lit (.bool false)], args := [d] }
  | _ => none }
def HashStreamWrongFalsely : Prop := hashStreamRow.holds Try.pinned (OpenSpec.ofChange hashStreamWrong)

/-- 'certpathlaw01.HashHex': WHATEVER THE INPUT: true; the input reads as it did. -/
def hashHexSpec : ChangeSpec := { name := "hashHex", fn := fun _ => fun
  | [d1, d2] => { results := [.lit (.bool true)], args := [d1, d2] }
  | _ => none }
def hashHexRow : OpenClaim := { program := "ytpiakeejfggocab", sum := "3fb9ff4b69a5d016a6da90de62155ef7fa894101666902a78b4df380ef261672", func := "certpath/certpathlaw01.HashHex", spec := "hashHex", apart := false }
def HashHexSaid : Prop := hashHexRow.holds Try.pinned (OpenSpec.ofChange hashHexSpec)

/-- ITS FALSE NEIGHBOUR: 'it returns false'. Refute it at one input. -/
def hashHexWrong : ChangeSpec := { name := "hashHex", fn := fun _ => fun
  | [d1, d2] => { results := [.lit (.bool false)], args := [d1, d2] }
  | _ => none }
def HashHexWrongFalsely : Prop := hashHexRow.holds Try.pinned (OpenSpec.ofChange hashHexWrong)

/- THE SECOND FORM. 'bulk': how many values and letters a reading holds, each counted each time it is reached (what is shared counts as often as it is met; a slice's spare places count too). A statement '..UptoSaid' is the law's where the arguments, and the package variables that the reading takes, are together of bulk at most 1048576: NARROWER than '..Said'. Prove '..Said' where nothing that the law and all that it calls make is longer than what came in: it says more and counts as full. Else prove '..UptoSaid'. A law counts once. -/
mutual
def uptoBulk {H : Type} : DataW H → Nat
  | .lit (.string bytes) => bytes.length + 1
  | .lit _ => 1
  | .nil => 1
  | .ptr d => uptoBulk d + 1
  | .slice elems spare => uptoBulkAll elems + uptoBulkAll spare + 1
  | .agg parts => uptoBulkAll parts + 1
  | .iface _ d => uptoBulk d + 1
  | .map entries => uptoBulkEntries entries + 1
  | .held _ => 1
def uptoBulkAll {H : Type} : List (DataW H) → Nat
  | [] => 0
  | d :: r => uptoBulk d + uptoBulkAll r
def uptoBulkEntries {H : Type} : List (Lit × DataW H) → Nat
  | [] => 0
  | x :: r => uptoBulkEntry x + uptoBulkEntries r
def uptoBulkEntry {H : Type} : Lit × DataW H → Nat
  | (.string bytes, d) => bytes.length + uptoBulk d + 1
  | (_, d) => uptoBulk d + 1
 end
def uptoSmall : (H : Type) → List (DataW H) → Bool := fun _ ds => decide (uptoBulkAll ds ≤ 1048576)
def OpenSpec.upto (s : _root_.Go.ChangeSpec) : _root_.Go.OpenSpec := { _root_.Go.OpenSpec.ofChange s with cond := some uptoSmall }

/-- 'certpathlaw01.HashSum', WHERE WHAT IT READS IS OF BULK AT MOST 1048576: true; the input reads as it did. -/
def hashSumUptoRow : OpenClaim := { program := "ytpiakeejfggocab", sum := "3fb9ff4b69a5d016a6da90de62155ef7fa894101666902a78b4df380ef261672", func := "certpath/certpathlaw01.HashSum", spec := "hashSum", apart := false, narrowed := true }
def HashSumUptoSaid : Prop := hashSumUptoRow.holds Try.pinned (OpenSpec.upto hashSumSpec)

/-- 'certpathlaw01.HashLengths', WHERE WHAT IT READS IS OF BULK AT MOST 1048576: true; the input reads as it did. -/
def hashLengthsUptoRow : OpenClaim := { program := "ytpiakeejfggocab", sum := "3fb9ff4b69a5d016a6da90de62155ef7fa894101666902a78b4df380ef261672", func := "certpath/certpathlaw01.HashLengths", spec := "hashLengths", apart := false, narrowed := true }
def HashLengthsUptoSaid : Prop := hashLengthsUptoRow.holds Try.pinned (OpenSpec.upto hashLengthsSpec)

/-- 'certpathlaw01.HashParts', WHERE WHAT IT READS IS OF BULK AT MOST 1048576: true; the input reads as it did. -/
def hashPartsUptoRow : OpenClaim := { program := "ytpiakeejfggocab", sum := "3fb9ff4b69a5d016a6da90de62155ef7fa894101666902a78b4df380ef261672", func := "certpath/certpathlaw01.HashParts", spec := "hashParts", apart := false, narrowed := true }
def HashPartsUptoSaid : Prop := hashPartsUptoRow.holds Try.pinned (OpenSpec.upto hashPartsSpec)

/-- 'certpathlaw01.HashStream', WHERE WHAT IT READS IS OF BULK AT MOST 1048576: true; the input reads as it did. -/
def hashStreamUptoRow : OpenClaim := { program := "ytpiakeejfggocab", sum := "3fb9ff4b69a5d016a6da90de62155ef7fa894101666902a78b4df380ef261672", func := "certpath/certpathlaw01.HashStream", spec := "hashStream", apart := false, narrowed := true }
def HashStreamUptoSaid : Prop := hashStreamUptoRow.holds Try.pinned (OpenSpec.upto hashStreamSpec)

/-- 'certpathlaw01.HashHex', WHERE WHAT IT READS IS OF BULK AT MOST 1048576: true; the input reads as it did. -/
def hashHexUptoRow : OpenClaim := { program := "ytpiakeejfggocab", sum := "3fb9ff4b69a5d016a6da90de62155ef7fa894101666902a78b4df380ef261672", func := "certpath/certpathlaw01.HashHex", spec := "hashHex", apart := false, narrowed := true }
def HashHexUptoSaid : Prop := hashHexUptoRow.holds Try.pinned (OpenSpec.upto hashHexSpec)

end Rows
end Go.Proofs.Ytpiakeejfggocab
