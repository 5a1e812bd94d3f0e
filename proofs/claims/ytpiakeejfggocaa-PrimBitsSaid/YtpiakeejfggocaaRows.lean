/-
  No cell of these rows narrows 'for every input' (looked for: loops, veiled, ifaces, maps, wideKeys, modest, calm, conditions, laid).
  DERIVED. THE GIVEN ROWS OF THIS SEAT. 6 by the template 'for every input the law returns true; each argument reads behind the call as it read before'; 0 by the template 'total and deterministic' (their statements: YtpiakeejfggocaaTotals.lean).
  GIVEN WITH THE SEED: the statements are not yours to turn. If you find one false, say at which input.
  Laid BY PROGRAM, IN A SANDBOX (cutbox-rows.mjs): the forced cells as the released guide's own fill.sh prints them over the translation af7ea316ea35b364… (all of the seat's roots in one cut). By AI agents, Wed Nov 11 2026. No macro, syntax, notation, axiom, sorry.
-/
import Derived.Test.YtpiakeejfggocaaChecked
import GoSem.Claim
import GoSem.ClaimJoined
import GoSem.ClaimMapViews
import Derived.JoinedTies
import Derived.KernelRfl
namespace Go.Proofs.Ytpiakeejfggocaa
/- THE CELL 'sum', in the pinned program and in every row, IS THE sha256 OF THE DUMP (.gsa) THAT YtpiakeejfggocaaProg.lean LOADS. Nothing in Lean hashes anything: it is a label: what it is worth is what the hold of that sum in a sandbox is worth. -/
noncomputable def Try.pinned : Pinned := { name := "ytpiakeejfggocaa", sum := "af7ea316ea35b364d904603a194f76a31719a4dd4aa8acbc34f4c1bffff64f8d", checked := Try.checked }
namespace Rows
def none {H : Type} : Left H := { results := [], args := [] }

/-- 'certpathlaw03.PrimInteger': WHATEVER THE INPUT: true; the input reads as it did. -/
def primIntegerSpec : ChangeSpec := { name := "primInteger", fn := fun _ => fun
  | [d1, d2, d3] => { results := [.lit (.bool true)], args := [d1, d2, d3] }
  | _ => none }
def primIntegerRow : OpenClaim := { program := "ytpiakeejfggocaa", sum := "af7ea316ea35b364d904603a194f76a31719a4dd4aa8acbc34f4c1bffff64f8d", func := "certpath/certpathlaw03.PrimInteger", spec := "primInteger", apart := false }
def PrimIntegerSaid : Prop := primIntegerRow.holds Try.pinned (OpenSpec.ofChange primIntegerSpec)

/-- ITS FALSE NEIGHBOUR: 'it returns false'. Refute it at one input. -/
def primIntegerWrong : ChangeSpec := { name := "primInteger", fn := fun _ => fun
  | [d1, d2, d3] => { results := [.lit (.bool false)], args := [d1, d2, d3] }
  | _ => none }
def PrimIntegerWrongFalsely : Prop := primIntegerRow.holds Try.pinned (OpenSpec.ofChange primIntegerWrong)

/-- 'certpathlaw03.PrimPutInteger': WHATEVER THE INPUT: true; the input reads as it did. -/
def primPutIntegerSpec : ChangeSpec := { name := "primPutInteger", fn := fun _ => fun
  | [d1, d2] => { results := [.lit (.bool true)], args := [d1, d2] }
  | _ => none }
def primPutIntegerRow : OpenClaim := { program := "ytpiakeejfggocaa", sum := "af7ea316ea35b364d904603a194f76a31719a4dd4aa8acbc34f4c1bffff64f8d", func := "certpath/certpathlaw03.PrimPutInteger", spec := "primPutInteger", apart := false }
def PrimPutIntegerSaid : Prop := primPutIntegerRow.holds Try.pinned (OpenSpec.ofChange primPutIntegerSpec)

/-- ITS FALSE NEIGHBOUR: 'it returns false'. Refute it at one input. -/
def primPutIntegerWrong : ChangeSpec := { name := "primPutInteger", fn := fun _ => fun
  | [d1, d2] => { results := [.lit (.bool false)], args := [d1, d2] }
  | _ => none }
def PrimPutIntegerWrongFalsely : Prop := primPutIntegerRow.holds Try.pinned (OpenSpec.ofChange primPutIntegerWrong)

/-- 'certpathlaw03.PrimBoolean': WHATEVER THE INPUT: true; the input reads as it did. -/
def primBooleanSpec : ChangeSpec := { name := "primBoolean", fn := fun _ => fun
  | [d1, d2] => { results := [.lit (.bool true)], args := [d1, d2] }
  | _ => none }
def primBooleanRow : OpenClaim := { program := "ytpiakeejfggocaa", sum := "af7ea316ea35b364d904603a194f76a31719a4dd4aa8acbc34f4c1bffff64f8d", func := "certpath/certpathlaw03.PrimBoolean", spec := "primBoolean", apart := false }
def PrimBooleanSaid : Prop := primBooleanRow.holds Try.pinned (OpenSpec.ofChange primBooleanSpec)

/-- ITS FALSE NEIGHBOUR: 'it returns false'. Refute it at one input. -/
def primBooleanWrong : ChangeSpec := { name := "primBoolean", fn := fun _ => fun
  | [d1, d2] => { results := [.lit (.bool false)], args := [d1, d2] }
  | _ => none }
def PrimBooleanWrongFalsely : Prop := primBooleanRow.holds Try.pinned (OpenSpec.ofChange primBooleanWrong)

/-- 'certpathlaw03.PrimBits': WHATEVER THE INPUT: true; the input reads as it did. -/
def primBitsSpec : ChangeSpec := { name := "primBits", fn := fun _ => fun
  | [d1, d2, d3, d4] => { results := [.lit (.bool true)], args := [d1, d2, d3, d4] }
  | _ => none }
def primBitsRow : OpenClaim := { program := "ytpiakeejfggocaa", sum := "af7ea316ea35b364d904603a194f76a31719a4dd4aa8acbc34f4c1bffff64f8d", func := "certpath/certpathlaw03.PrimBits", spec := "primBits", apart := false }
def PrimBitsSaid : Prop := primBitsRow.holds Try.pinned (OpenSpec.ofChange primBitsSpec)

/-- ITS FALSE NEIGHBOUR: 'it returns false'. Refute it at one input. -/
def primBitsWrong : ChangeSpec := { name := "primBits", fn := fun _ => fun
  | [d1, d2, d3, d4] => { results := [.lit (.bool false)], args := [d1, d2, d3, d4] }
  | _ => none }
def PrimBitsWrongFalsely : Prop := primBitsRow.holds Try.pinned (OpenSpec.ofChange primBitsWrong)

/-- 'certpathlaw03.PrimFlags': WHATEVER THE INPUT: true; the input reads as it did. -/
def primFlagsSpec : ChangeSpec := { name := "primFlags", fn := fun _ => fun
  | [d1, d2, d3, d4, d5] => { results := [.lit (.bool true)], args := [d1, d2, d3, d4, d5] }
  | _ => none }
def primFlagsRow : OpenClaim := { program := "ytpiakeejfggocaa", sum := "af7ea316ea35b364d904603a194f76a31719a4dd4aa8acbc34f4c1bffff64f8d", func := "certpath/certpathlaw03.PrimFlags", spec := "primFlags", apart := false }
def PrimFlagsSaid : Prop := primFlagsRow.holds Try.pinned (OpenSpec.ofChange primFlagsSpec)

/-- ITS FALSE NEIGHBOUR: 'it returns false'. Refute it at one input. -/
def primFlagsWrong : ChangeSpec := { name := "primFlags", fn := fun _ => fun
  | [d1, d2, d3, d4, d5] => { results := [.lit (.bool false)], args := [d1, d2, d3, d4, d5] }
  | _ => none }
def PrimFlagsWrongFalsely : Prop := primFlagsRow.holds Try.pinned (OpenSpec.ofChange primFlagsWrong)

/-- 'certpathlaw03.PrimCanonical': WHATEVER THE INPUT: true; the input reads as it did. -/
def primCanonicalSpec : ChangeSpec := { name := "primCanonical", fn := fun _ => fun
  | [d] => { results := [.lit (.bool true)], args := [d] }
  | _ => none }
def primCanonicalRow : OpenClaim := { program := "ytpiakeejfggocaa", sum := "af7ea316ea35b364d904603a194f76a31719a4dd4aa8acbc34f4c1bffff64f8d", func := "certpath/certpathlaw03.PrimCanonical", spec := "primCanonical", apart := false }
def PrimCanonicalSaid : Prop := primCanonicalRow.holds Try.pinned (OpenSpec.ofChange primCanonicalSpec)

/-- ITS FALSE NEIGHBOUR: 'it returns false'. Refute it at one input. -/
def primCanonicalWrong : ChangeSpec := { name := "primCanonical", fn := fun _ => fun
  | [d] => { results := [.lit (.bool false)], args := [d] }
  | _ => none }
def PrimCanonicalWrongFalsely : Prop := primCanonicalRow.holds Try.pinned (OpenSpec.ofChange primCanonicalWrong)

/- THE SECOND FORM. 'bulk': how many values and letters a reading holds, each counted each time it is reached (what is shared counts as often as it is met; a slice's spare places count too). A statement '..UptoSaid' is the law's where the arguments, and the package variables that the reading takes, are together of bulk at most 1048576: NARROWER than '..Said'. Prove '..Said' where nothing that the law and all that it calls make is longer than what came in: it says more and counts as full. Else prove '..UptoSaid'. A law counts once. -/
mutual
def uptoBulk {H : Type} : DataW H → Nat
  | .lit (.string bytes) => bytes.length + 1
  | .lit _ => 1
  | .nil => 1
  | .ptr d => uptoBulk d + 1
  | .slice elems spare => uptoBulkAll elems + uptoBulkAll spare + 1
  | .agg parts => uptoBulkAll parts + 1
  | .iface _ d => uptoBulk d + 1
  | .map entries => uptoBulkEntries entries + 1
  | .held _ => 1
def uptoBulkAll {H : Type} : List (DataW H) → Nat
  | [] => 0
  | d :: r => uptoBulk d + uptoBulkAll r
def uptoBulkEntries {H : Type} : List (Lit × DataW H) → Nat
  | [] => 0
  | x :: r => uptoBulkEntry x + uptoBulkEntries r
def uptoBulkEntry {H : Type} : Lit × DataW H → Nat
  | (.string bytes, d) => bytes.length + uptoBulk d + 1
  | (_, d) => uptoBulk d + 1
 end
def uptoSmall : (H : Type) → List (DataW H) → Bool := fun _ ds => decide (uptoBulkAll ds ≤ 1048576)
def OpenSpec.upto (s : _root_.Go.ChangeSpec) : _root_.Go.OpenSpec := { _root_.Go.OpenSpec.ofChange s with cond := some uptoSmall }

/-- 'certpathlaw03.PrimInteger', WHERE WHAT IT READS IS OF BULK AT MOST 1048576: true; the input reads as it did. -/
def primIntegerUptoRow : OpenClaim := { program := "ytpiakeejfggocaa", sum := "af7ea316ea35b364d904603a194f76a31719a4dd4aa8acbc34f4c1bffff64f8d", func := "certpath/certpathlaw03.PrimInteger", spec := "primInteger", apart := false, narrowed := true }
def PrimIntegerUptoSaid : Prop := primIntegerUptoRow.holds Try.pinned (OpenSpec.upto primIntegerSpec)

/-- 'certpathlaw03.PrimPutInteger', WHERE WHAT IT READS IS OF BULK AT MOST 1048576: true; the input reads as it did. -/
def primPutIntegerUptoRow : OpenClaim := { program := "ytpiakeejfggocaa", sum := "af7ea316ea35b364d904603a194f76a31719a4dd4aa8acbc34f4c1bffff64f8d", func := "certpath/certpathlaw03.PrimPutInteger", spec := "primPutInteger", apart := false, narrowed := true }
def PrimPutIntegerUptoSaid : Prop := primPutIntegerUptoRow.holds Try.pinned (OpenSpec.upto primPutIntegerSpec)

/-- 'certpathlaw03.PrimBoolean', WHERE WHAT IT READS IS OF BULK AT MOST 1048576: true; the input reads as it did. -/
def primBooleanUptoRow : OpenClaim := { program := "ytpiakeejfggocaa", sum := "af7ea316ea35b364d904603a194f76a31719a4dd4aa8acbc34f4c1bffff64f8d", func := "certpath/certpathlaw03.PrimBoolean", spec := "primBoolean", apart := false, narrowed := true }
def PrimBooleanUptoSaid : Prop := primBooleanUptoRow.holds Try.pinned (OpenSpec.upto primBooleanSpec)

/-- 'certpathlaw03.PrimBits', WHERE WHAT IT READS IS OF BULK AT MOST 1048576: true; the input reads as it did. -/
def primBitsUptoRow : OpenClaim := { program := "ytpiakeejfggocaa", sum := "af7ea316ea35b364d904603a194f76a31719a4dd4aa8acbc34f4c1bffff64f8d", func := "certpath/certpathlaw03.PrimBits", spec := "primBits", apart := false, narrowed := true }
def PrimBitsUptoSaid : Prop := primBitsUptoRow.holds Try.pinned (OpenSpec.upto primBitsSpec)

/-- 'certpathlaw03.PrimFlags', WHERE WHAT IT READS IS OF BULK AT MOST 1048576: true; the input reads as it did. -/
def primFlagsUptoRow : OpenClaim := { program := "ytpiakeejfggocaa", sum := "af7ea316ea35b364d904603a194f76a31719a4dd4aa8acbc34f4c1bffff64f8d", func := "certpath/certpathlaw03.PrimFlags", spec := "primFlags", apart := false, narrowed := true }
def PrimFlagsUptoSaid : Prop := primFlagsUptoRow.holds Try.pinned (OpenSpec.upto primFlagsSpec)

/-- 'certpathlaw03.PrimCanonical', WHERE WHAT IT READS IS OF BULK AT MOST 1048576: true; the input reads as it did. -/
def primCanonicalUptoRow : OpenClaim := { program := "ytpiakeejfggocaa", sum := "af7ea316ea35b364d904603a194f76a31719a4dd4aa8acbc34f4c1bffff64f8d", func := "certpath/certpathlaw03.PrimCanonical", spec := "primCanonical", apart := false, narrowed := true }
def PrimCanonicalUptoSaid : Prop := primCanonicalUptoRow.holds Try.pinned (OpenSpec.upto primCanonicalSpec)

end Rows
end Go.Proofs.Ytpiakeejfggocaa
