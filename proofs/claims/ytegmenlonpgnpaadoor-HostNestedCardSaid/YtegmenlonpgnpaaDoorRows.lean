/-
  NARROWER THAN 'FOR EVERY INPUT', by the rows' own cells (each row's printed sentence says how): HostNames: laid · HostLong: laid · HostMail: laid · HostChains: laid · HostDNSMatch: laid · HostAddress: laid · HostNested: laid.
  DERIVED. THE GIVEN ROWS OF THIS SEAT. 7 by the template 'for every input the law returns true; each argument reads behind the call as it read before'; 0 by the template 'total and deterministic' (their statements: YtegmenlonpgnpaaDoorTotals.lean).
  GIVEN WITH THE SEED: the statements are not yours to turn. If you find one false, say at which input.
  Laid BY PROGRAM, IN A SANDBOX (cutbox-rows.mjs): the forced cells as the released guide's own fill.sh prints them over the translation 602ea4f10e2966ea… (all of the seat's roots in one cut). By AI agents, Wed Nov 11 2026. No macro, syntax, notation, axiom, sorry.
-/
import Derived.Test.YtegmenlonpgnpaaDoorChecked
import GoSem.PinnedTables
import GoSem.Claim
import GoSem.ClaimJoined
import GoSem.ClaimMapViews
import Derived.JoinedTies
import Derived.KernelRfl
namespace Go.Proofs.YtegmenlonpgnpaaDoor
/- THE CELL 'sum', in the pinned program and in every row, IS THE sha256 OF THE DUMP (.gsa) THAT YtegmenlonpgnpaaDoorProg.lean LOADS. Nothing in Lean hashes anything: it is a label: what it is worth is what the hold of that sum in a sandbox is worth. -/
noncomputable def Tryd.pinned : Pinned := { name := "ytegmenlonpgnpaadoor", sum := "602ea4f10e2966ea817c26e17703d4fd46dceed219bc7418d7a9ba0739c61cd7", checked := Tryd.checked }
namespace Rows
def none {H : Type} : Left H := { results := [], args := [] }

/- WHAT THE LISTED PACKAGE-LEVEL VARIABLES READ AS WHEN THE CALL BEGINS. Each datum BY PROGRAM (the guide's laid-datum.mjs) off the statement by which the dump's own 'gosem.cut.vars' lays the variable. In a bare row this is a premise. The card (YtegmenlonpgnpaaDoorCards.lean) ties it to the program's text. -/
def laid_unicode_utf8_acceptRanges {H : Type} : DataW H := .agg [.agg [.lit (.int .u8 128), .lit (.int .u8 191)], .agg [.lit (.int .u8 160), .lit (.int .u8 191)], .agg [.lit (.int .u8 128), .lit (.int .u8 159)], .agg [.lit (.int .u8 144), .lit (.int .u8 191)], .agg [.lit (.int .u8 128), .lit (.int .u8 143)], .agg [.lit (.int .u8 0), .lit (.int .u8 0)], .agg [.lit (.int .u8 0), .lit (.int .u8 0)], .agg [.lit (.int .u8 0), .lit (.int .u8 0)], .agg [.lit (.int .u8 0), .lit (.int .u8 0)], .agg [.lit (.int .u8 0), .lit (.int .u8 0)], .agg [.lit (.int .u8 0), .lit (.int .u8 0)], .agg [.lit (.int .u8 0), .lit (.int .u8 0)], .agg [.lit (.int .u8 0), .lit (.int .u8 0)], .agg [.lit (.int .u8 0), .lit (.int .u8 0)], .agg [.lit (.int .u8 0), .lit (.int .u8 0)], .agg [.lit (.int .u8 0), .lit (.int .u8 0)]]
/-- One of Go's own tables, pinned by name: the form's constant. -/
def laid_unicode_utf8_first : DataW Unit := Go.Pinned.utf8First

/-- 'certpathlaw08.HostNames': WHATEVER THE INPUT: true; the input reads as it did. -/
def hostNamesSpec : ChangeSpec := { name := "hostNames", fn := fun _ => fun
  | [d1, d2] => { results := [.lit (.bool true)], args := [d1, d2] }
  | _ => none }
def hostNamesRow : OpenClaim := { program := "ytegmenlonpgnpaadoor", sum := "602ea4f10e2966ea817c26e17703d4fd46dceed219bc7418d7a9ba0739c61cd7", func := "certpath/certpathlaw08.HostNames", spec := "hostNames", inPlace := ["internal/bytealg.CountString", "internal/bytealg.IndexByteString", "internal/bytealg.IndexString"], named := ["unicode/utf8.first", "unicode/utf8.acceptRanges", "internal/bytealg.MaxLen"], apart := false, laid := [("unicode/utf8.acceptRanges", laid_unicode_utf8_acceptRanges), ("unicode/utf8.first", laid_unicode_utf8_first)] }
def HostNamesSaid : Prop := hostNamesRow.holds Tryd.pinned (OpenSpec.ofChange hostNamesSpec)

/-- ITS FALSE NEIGHBOUR: 'it returns false'. Refute it at one input. -/
def hostNamesWrong : ChangeSpec := { name := "hostNames", fn := fun _ => fun
  | [d1, d2] => { results := [.lit (.bool false)], args := [d1, d2] }
  | _ => none }
def HostNamesWrongFalsely : Prop := hostNamesRow.holds Tryd.pinned (OpenSpec.ofChange hostNamesWrong)

/-- 'certpathlaw08.HostLong': WHATEVER THE INPUT: true; the input reads as it did. -/
def hostLongSpec : ChangeSpec := { name := "hostLong", fn := fun _ => fun
  | [d1, d2, d3] => { results := [.lit (.bool true)], args := [d1, d2, d3] }
  | _ => none }
def hostLongRow : OpenClaim := { program := "ytegmenlonpgnpaadoor", sum := "602ea4f10e2966ea817c26e17703d4fd46dceed219bc7418d7a9ba0739c61cd7", func := "certpath/certpathlaw08.HostLong", spec := "hostLong", inPlace := ["internal/bytealg.CountString", "internal/bytealg.IndexByteString", "internal/bytealg.IndexString"], named := ["unicode/utf8.first", "unicode/utf8.acceptRanges", "internal/bytealg.MaxLen"], apart := false, laid := [("unicode/utf8.acceptRanges", laid_unicode_utf8_acceptRanges), ("unicode/utf8.first", laid_unicode_utf8_first)] }
def HostLongSaid : Prop := hostLongRow.holds Tryd.pinned (OpenSpec.ofChange hostLongSpec)

/-- ITS FALSE NEIGHBOUR: 'it returns false'. Refute it at one input. -/
def hostLongWrong : ChangeSpec := { name := "hostLong", fn := fun _ => fun
  | [d1, d2, d3] => { results := [.lit (.bool false)], args := [d1, d2, d3] }
  | _ => none }
def HostLongWrongFalsely : Prop := hostLongRow.holds Tryd.pinned (OpenSpec.ofChange hostLongWrong)

/-- 'certpathlaw08.HostMail': WHATEVER THE INPUT: true; the input reads as it did. -/
def hostMailSpec : ChangeSpec := { name := "hostMail", fn := fun _ => fun
  | [d1, d2, d3, d4] => { results := [.lit (.bool true)], args := [d1, d2, d3, d4] }
  | _ => none }
def hostMailRow : OpenClaim := { program := "ytegmenlonpgnpaadoor", sum := "602ea4f10e2966ea817c26e17703d4fd46dceed219bc7418d7a9ba0739c61cd7", func := "certpath/certpathlaw08.HostMail", spec := "hostMail", inPlace := ["internal/bytealg.CountString", "internal/bytealg.IndexByteString", "internal/bytealg.IndexString"], named := ["unicode/utf8.first", "unicode/utf8.acceptRanges", "internal/bytealg.MaxLen"], apart := false, laid := [("unicode/utf8.acceptRanges", laid_unicode_utf8_acceptRanges), ("unicode/utf8.first", laid_unicode_utf8_first)] }
def HostMailSaid : Prop := hostMailRow.holds Tryd.pinned (OpenSpec.ofChange hostMailSpec)

/-- ITS FALSE NEIGHBOUR: 'it returns false'. Refute it at one input. -/
def hostMailWrong : ChangeSpec := { name := "hostMail", fn := fun _ => fun
  | [d1, d2, d3, d4] => { results := [.lit (.bool false)], args := [d1, d2, d3, d4] }
  | _ => none }
def HostMailWrongFalsely : Prop := hostMailRow.holds Tryd.pinned (OpenSpec.ofChange hostMailWrong)

/-- 'certpathlaw08.HostChains': WHATEVER THE INPUT: true; the input reads as it did. -/
def hostChainsSpec : ChangeSpec := { name := "hostChains", fn := fun _ => fun
  | [d1, d2, d3] => { results := [.lit (.bool true)], args := [d1, d2, d3] }
  | _ => none }
def hostChainsRow : OpenClaim := { program := "ytegmenlonpgnpaadoor", sum := "602ea4f10e2966ea817c26e17703d4fd46dceed219bc7418d7a9ba0739c61cd7", func := "certpath/certpathlaw08.HostChains", spec := "hostChains", inPlace := ["internal/bytealg.CountString", "internal/bytealg.IndexByteString", "internal/bytealg.IndexString"], named := ["unicode/utf8.first", "unicode/utf8.acceptRanges", "internal/bytealg.MaxLen"], apart := false, laid := [("unicode/utf8.acceptRanges", laid_unicode_utf8_acceptRanges), ("unicode/utf8.first", laid_unicode_utf8_first)] }
def HostChainsSaid : Prop := hostChainsRow.holds Tryd.pinned (OpenSpec.ofChange hostChainsSpec)

/-- ITS FALSE NEIGHBOUR: 'it returns false'. Refute it at one input. -/
def hostChainsWrong : ChangeSpec := { name := "hostChains", fn := fun _ => fun
  | [d1, d2, d3] => { results := [.lit (.bool false)], args := [d1, d2, d3] }
  | _ => none }
def HostChainsWrongFalsely : Prop := hostChainsRow.holds Tryd.pinned (OpenSpec.ofChange hostChainsWrong)

/-- 'certpathlaw08.HostDNSMatch': WHATEVER THE INPUT: true; the input reads as it did. -/
def hostDNSMatchSpec : ChangeSpec := { name := "hostDNSMatch", fn := fun _ => fun
  | [d1, d2, d3, d4, d5] => { results := [.lit (.bool true)], args := [d1, d2, d3, d4, d5] }
  | _ => none }
def hostDNSMatchRow : OpenClaim := { program := "ytegmenlonpgnpaadoor", sum := "602ea4f10e2966ea817c26e17703d4fd46dceed219bc7418d7a9ba0739c61cd7", func := "certpath/certpathlaw08.HostDNSMatch", spec := "hostDNSMatch", inPlace := ["internal/bytealg.CountString", "internal/bytealg.IndexByteString", "internal/bytealg.IndexString"], named := ["unicode/utf8.first", "unicode/utf8.acceptRanges", "internal/bytealg.MaxLen"], apart := false, laid := [("unicode/utf8.acceptRanges", laid_unicode_utf8_acceptRanges), ("unicode/utf8.first", laid_unicode_utf8_first)] }
def HostDNSMatchSaid : Prop := hostDNSMatchRow.holds Tryd.pinned (OpenSpec.ofChange hostDNSMatchSpec)

/-- ITS FALSE NEIGHBOUR: 'it returns false'. Refute it at one input. -/
def hostDNSMatchWrong : ChangeSpec := { name := "hostDNSMatch", fn := fun _ => fun
  | [d1, d2, d3, d4, d5] => { results := [.lit (.bool false)], args := [d1, d2, d3, d4, d5] }
  | _ => none }
def HostDNSMatchWrongFalsely : Prop := hostDNSMatchRow.holds Tryd.pinned (OpenSpec.ofChange hostDNSMatchWrong)

/-- 'certpathlaw08.HostAddress': WHATEVER THE INPUT: true; the input reads as it did. -/
def hostAddressSpec : ChangeSpec := { name := "hostAddress", fn := fun _ => fun
  | [d1, d2, d3, d4, d5, d6, d7] => { results := [.lit (.bool true)], args := [d1, d2, d3, d4, d5, d6, d7] }
  | _ => none }
def hostAddressRow : OpenClaim := { program := "ytegmenlonpgnpaadoor", sum := "602ea4f10e2966ea817c26e17703d4fd46dceed219bc7418d7a9ba0739c61cd7", func := "certpath/certpathlaw08.HostAddress", spec := "hostAddress", inPlace := ["internal/bytealg.CountString", "internal/bytealg.IndexByteString", "internal/bytealg.IndexString"], named := ["unicode/utf8.first", "unicode/utf8.acceptRanges", "internal/bytealg.MaxLen"], apart := false, laid := [("unicode/utf8.acceptRanges", laid_unicode_utf8_acceptRanges), ("unicode/utf8.first", laid_unicode_utf8_first)] }
def HostAddressSaid : Prop := hostAddressRow.holds Tryd.pinned (OpenSpec.ofChange hostAddressSpec)

/-- ITS FALSE NEIGHBOUR: 'it returns false'. Refute it at one input. -/
def hostAddressWrong : ChangeSpec := { name := "hostAddress", fn := fun _ => fun
  | [d1, d2, d3, d4, d5, d6, d7] => { results := [.lit (.bool false)], args := [d1, d2, d3, d4, d5, d6, d7] }
  | _ => none }
def HostAddressWrongFalsely : Prop := hostAddressRow.holds Tryd.pinned (OpenSpec.ofChange hostAddressWrong)

/-- 'certpathlaw08.HostNested': WHATEVER THE INPUT: true; the input reads as it did. -/
def hostNestedSpec : ChangeSpec := { name := "hostNested", fn := fun _ => fun
  | [d1, d2, d3, d4, d5, d6, d7] => { results := [.lit (.bool true)], args := [d1, d2, d3, d4, d5, d6, d7] }
  | _ => none }
def hostNestedRow : OpenClaim := { program := "ytegmenlonpgnpaadoor", sum := "602ea4f10e2966ea817c26e17703d4fd46dceed219bc7418d7a9ba0739c61cd7", func := "certpath/certpathlaw08.HostNested", spec := "hostNested", inPlace := ["internal/bytealg.CountString", "internal/bytealg.IndexByteString", "internal/bytealg.IndexString"], named := ["unicode/utf8.first", "unicode/utf8.acceptRanges", "internal/bytealg.MaxLen"], apart := false, laid := [("unicode/utf8.acceptRanges", laid_unicode_utf8_acceptRanges), ("unicode/utf8.first", laid_unicode_utf8_first)] }
def HostNestedSaid : Prop := hostNestedRow.holds Tryd.pinned (OpenSpec.ofChange hostNestedSpec)

/-- ITS FALSE NEIGHBOUR: 'it returns false'. Refute it at one input. -/
def hostNestedWrong : ChangeSpec := { name := "hostNested", fn := fun _ => fun
  | [d1, d2, d3, d4, d5, d6, d7] => { results := [.lit (.bool false)], args := [d1, d2, d3, d4, d5, d6, d7] }
  | _ => none }
def HostNestedWrongFalsely : Prop := hostNestedRow.holds Tryd.pinned (OpenSpec.ofChange hostNestedWrong)

/- THE SECOND FORM. 'bulk': how many values and letters a reading holds, each counted each time it is reached (what is shared counts as often as it is met; a slice's spare places count too). A statement '..UptoSaid' is the law's where the arguments, and the package variables that the reading takes, are together of bulk at most 1048576: NARROWER than '..Said'. Prove '..Said' where nothing that the law and all that it calls make is longer than what came in: it says more and counts as full. Else prove '..UptoSaid'. A law counts once. -/
mutual
def uptoBulk {H : Type} : DataW H → Nat
  | .lit (.string bytes) => bytes.length + 1
  | .lit _ => 1
  | .nil => 1
  | .ptr d => uptoBulk d + 1
  | .slice elems spare => uptoBulkAll elems + uptoBulkAll spare + 1
  | .agg parts => uptoBulkAll parts + 1
  | .iface _ d => uptoBulk d + 1
  | .map entries => uptoBulkEntries entries + 1
  | .held _ => 1
def uptoBulkAll {H : Type} : List (DataW H) → Nat
  | [] => 0
  | d :: r => uptoBulk d + uptoBulkAll r
def uptoBulkEntries {H : Type} : List (Lit × DataW H) → Nat
  | [] => 0
  | x :: r => uptoBulkEntry x + uptoBulkEntries r
def uptoBulkEntry {H : Type} : Lit × DataW H → Nat
  | (.string bytes, d) => bytes.length + uptoBulk d + 1
  | (_, d) => uptoBulk d + 1
 end
def uptoSmall : (H : Type) → List (DataW H) → Bool := fun _ ds => decide (uptoBulkAll ds ≤ 1048576)
def OpenSpec.upto (s : _root_.Go.ChangeSpec) : _root_.Go.OpenSpec := { _root_.Go.OpenSpec.ofChange s with cond := some uptoSmall }

/-- 'certpathlaw08.HostNames', WHERE WHAT IT READS IS OF BULK AT MOST 1048576: true; the input reads as it did. -/
def hostNamesUptoRow : OpenClaim := { program := "ytegmenlonpgnpaadoor", sum := "602ea4f10e2966ea817c26e17703d4fd46dceed219bc7418d7a9ba0739c61cd7", func := "certpath/certpathlaw08.HostNames", spec := "hostNames", inPlace := ["internal/bytealg.CountString", "internal/bytealg.IndexByteString", "internal/bytealg.IndexString"], named := ["unicode/utf8.first", "unicode/utf8.acceptRanges", "internal/bytealg.MaxLen"], apart := false, laid := [("unicode/utf8.acceptRanges", laid_unicode_utf8_acceptRanges), ("unicode/utf8.first", laid_unicode_utf8_first)], narrowed := true }
def HostNamesUptoSaid : Prop := hostNamesUptoRow.holds Tryd.pinned (OpenSpec.upto hostNamesSpec)

/-- 'certpathlaw08.HostLong', WHERE WHAT IT READS IS OF BULK AT MOST 1048576: true; the input reads as it did. -/
def hostLongUptoRow : OpenClaim := { program := "ytegmenlonpgnpaadoor", sum := "602ea4f10e2966ea817c26e17703d4fd46dceed219bc7418d7a9ba0739c61cd7", func := "certpath/certpathlaw08.HostLong", spec := "hostLong", inPlace := ["internal/bytealg.CountString", "internal/bytealg.IndexByteString", "internal/bytealg.IndexString"], named := ["unicode/utf8.first", "unicode/utf8.acceptRanges", "internal/bytealg.MaxLen"], apart := false, laid := [("unicode/utf8.acceptRanges", laid_unicode_utf8_acceptRanges), ("unicode/utf8.first", laid_unicode_utf8_first)], narrowed := true }
def HostLongUptoSaid : Prop := hostLongUptoRow.holds Tryd.pinned (OpenSpec.upto hostLongSpec)

/-- 'certpathlaw08.HostMail', WHERE WHAT IT READS IS OF BULK AT MOST 1048576: true; the input reads as it did. -/
def hostMailUptoRow : OpenClaim := { program := "ytegmenlonpgnpaadoor", sum := "602ea4f10e2966ea817c26e17703d4fd46dceed219bc7418d7a9ba0739c61cd7", func := "certpath/certpathlaw08.HostMail", spec := "hostMail", inPlace := ["internal/bytealg.CountString", "internal/bytealg.IndexByteString", "internal/bytealg.IndexString"], named := ["unicode/utf8.first", "unicode/utf8.acceptRanges", "internal/bytealg.MaxLen"], apart := false, laid := [("unicode/utf8.acceptRanges", laid_unicode_utf8_acceptRanges), ("unicode/utf8.first", laid_unicode_utf8_first)], narrowed := true }
def HostMailUptoSaid : Prop := hostMailUptoRow.holds Tryd.pinned (OpenSpec.upto hostMailSpec)

/-- 'certpathlaw08.HostChains', WHERE WHAT IT READS IS OF BULK AT MOST 1048576: true; the input reads as it did. -/
def hostChainsUptoRow : OpenClaim := { program := "ytegmenlonpgnpaadoor", sum := "602ea4f10e2966ea817c26e17703d4fd46dceed219bc7418d7a9ba0739c61cd7", func := "certpath/certpathlaw08.HostChains", spec := "hostChains", inPlace := ["internal/bytealg.CountString", "internal/bytealg.IndexByteString", "internal/bytealg.IndexString"], named := ["unicode/utf8.first", "unicode/utf8.acceptRanges", "internal/bytealg.MaxLen"], apart := false, laid := [("unicode/utf8.acceptRanges", laid_unicode_utf8_acceptRanges), ("unicode/utf8.first", laid_unicode_utf8_first)], narrowed := true }
def HostChainsUptoSaid : Prop := hostChainsUptoRow.holds Tryd.pinned (OpenSpec.upto hostChainsSpec)

/-- 'certpathlaw08.HostDNSMatch', WHERE WHAT IT READS IS OF BULK AT MOST 1048576: true; the input reads as it did. -/
def hostDNSMatchUptoRow : OpenClaim := { program := "ytegmenlonpgnpaadoor", sum := "602ea4f10e2966ea817c26e17703d4fd46dceed219bc7418d7a9ba0739c61cd7", func := "certpath/certpathlaw08.HostDNSMatch", spec := "hostDNSMatch", inPlace := ["internal/bytealg.CountString", "internal/bytealg.IndexByteString", "internal/bytealg.IndexString"], named := ["unicode/utf8.first", "unicode/utf8.acceptRanges", "internal/bytealg.MaxLen"], apart := false, laid := [("unicode/utf8.acceptRanges", laid_unicode_utf8_acceptRanges), ("unicode/utf8.first", laid_unicode_utf8_first)], narrowed := true }
def HostDNSMatchUptoSaid : Prop := hostDNSMatchUptoRow.holds Tryd.pinned (OpenSpec.upto hostDNSMatchSpec)

/-- 'certpathlaw08.HostAddress', WHERE WHAT IT READS IS OF BULK AT MOST 1048576: true; the input reads as it did. -/
def hostAddressUptoRow : OpenClaim := { program := "ytegmenlonpgnpaadoor", sum := "602ea4f10e2966ea817c26e17703d4fd46dceed219bc7418d7a9ba0739c61cd7", func := "certpath/certpathlaw08.HostAddress", spec := "hostAddress", inPlace := ["internal/bytealg.CountString", "internal/bytealg.IndexByteString", "internal/bytealg.IndexString"], named := ["unicode/utf8.first", "unicode/utf8.acceptRanges", "internal/bytealg.MaxLen"], apart := false, laid := [("unicode/utf8.acceptRanges", laid_unicode_utf8_acceptRanges), ("unicode/utf8.first", laid_unicode_utf8_first)], narrowed := true }
def HostAddressUptoSaid : Prop := hostAddressUptoRow.holds Tryd.pinned (OpenSpec.upto hostAddressSpec)

/-- 'certpathlaw08.HostNested', WHERE WHAT IT READS IS OF BULK AT MOST 1048576: true; the input reads as it did. -/
def hostNestedUptoRow : OpenClaim := { program := "ytegmenlonpgnpaadoor", sum := "602ea4f10e2966ea817c26e17703d4fd46dceed219bc7418d7a9ba0739c61cd7", func := "certpath/certpathlaw08.HostNested", spec := "hostNested", inPlace := ["internal/bytealg.CountString", "internal/bytealg.IndexByteString", "internal/bytealg.IndexString"], named := ["unicode/utf8.first", "unicode/utf8.acceptRanges", "internal/bytealg.MaxLen"], apart := false, laid := [("unicode/utf8.acceptRanges", laid_unicode_utf8_acceptRanges), ("unicode/utf8.first", laid_unicode_utf8_first)], narrowed := true }
def HostNestedUptoSaid : Prop := hostNestedUptoRow.holds Tryd.pinned (OpenSpec.upto hostNestedSpec)

end Rows
end Go.Proofs.YtegmenlonpgnpaaDoor
