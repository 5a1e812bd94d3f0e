/-
  DERIVED. GIVEN WITH THE SEED: THE CARDS: each row of YtegmenlonpgnpaaDoorRows.lean that lists a variable, with what it lists TIED to the program's text (the seventh form; the later family's looks); each row that meets fmt, with fmt's text TOLD by the authors' own Lean function (tested against real Go, not proved from fmt's source: count such statements apart). THE CARD IS WHAT COUNTS. Prove the row's statement (the work); the ties are given (YtegmenlonpgnpaaDoorTie.lean); close each card by the builder's one call (the guide's Derived/Test/ToyasCard.lean, 'card_holds'). Laid BY PROGRAM, IN A SANDBOX (cutbox-door.mjs). By AI agents, Wed Nov 11 2026. No macro, syntax, notation, axiom, sorry.
-/
import Derived.Test.YtegmenlonpgnpaaDoorRows
import GoSem.ClaimSeven
namespace Go.Proofs.YtegmenlonpgnpaaDoor
namespace Rows

/-- THE TIED CARD OF 'certpathlaw08.HostNames'. -/
def hostNamesCard : Claim7 := { stood := { row := hostNamesRow, standIns := [], harness := (true, "c6f61250aa8d1b3998b78a63b2be5c13d37c9ad0a878b26525ad1e4599f18700"), looks := false }, kinds := [], alts := [], laidByText := true, laidKinds := [.data, .pinned], laidTests := true, laidLooks := .later }
def HostNamesCardSaid : Prop := Claim7.holds Tryd.pinned (.plain (OpenSpec.ofChange hostNamesSpec)) hostNamesCard

/-- THE TIED CARD OF 'certpathlaw08.HostLong'. -/
def hostLongCard : Claim7 := { stood := { row := hostLongRow, standIns := [], harness := (true, "c6f61250aa8d1b3998b78a63b2be5c13d37c9ad0a878b26525ad1e4599f18700"), looks := false }, kinds := [], alts := [], laidByText := true, laidKinds := [.data, .pinned], laidTests := true, laidLooks := .later }
def HostLongCardSaid : Prop := Claim7.holds Tryd.pinned (.plain (OpenSpec.ofChange hostLongSpec)) hostLongCard

/-- THE TIED CARD OF 'certpathlaw08.HostMail'. -/
def hostMailCard : Claim7 := { stood := { row := hostMailRow, standIns := [], harness := (true, "c6f61250aa8d1b3998b78a63b2be5c13d37c9ad0a878b26525ad1e4599f18700"), looks := false }, kinds := [], alts := [], laidByText := true, laidKinds := [.data, .pinned], laidTests := true, laidLooks := .later }
def HostMailCardSaid : Prop := Claim7.holds Tryd.pinned (.plain (OpenSpec.ofChange hostMailSpec)) hostMailCard

/-- THE TIED CARD OF 'certpathlaw08.HostChains'. -/
def hostChainsCard : Claim7 := { stood := { row := hostChainsRow, standIns := [], harness := (true, "c6f61250aa8d1b3998b78a63b2be5c13d37c9ad0a878b26525ad1e4599f18700"), looks := false }, kinds := [], alts := [], laidByText := true, laidKinds := [.data, .pinned], laidTests := true, laidLooks := .later }
def HostChainsCardSaid : Prop := Claim7.holds Tryd.pinned (.plain (OpenSpec.ofChange hostChainsSpec)) hostChainsCard

/-- THE TIED CARD OF 'certpathlaw08.HostDNSMatch'. -/
def hostDNSMatchCard : Claim7 := { stood := { row := hostDNSMatchRow, standIns := [], harness := (true, "c6f61250aa8d1b3998b78a63b2be5c13d37c9ad0a878b26525ad1e4599f18700"), looks := false }, kinds := [], alts := [], laidByText := true, laidKinds := [.data, .pinned], laidTests := true, laidLooks := .later }
def HostDNSMatchCardSaid : Prop := Claim7.holds Tryd.pinned (.plain (OpenSpec.ofChange hostDNSMatchSpec)) hostDNSMatchCard

/-- THE TIED CARD OF 'certpathlaw08.HostAddress'. -/
def hostAddressCard : Claim7 := { stood := { row := hostAddressRow, standIns := [], harness := (true, "c6f61250aa8d1b3998b78a63b2be5c13d37c9ad0a878b26525ad1e4599f18700"), looks := false }, kinds := [], alts := [], laidByText := true, laidKinds := [.data, .pinned], laidTests := true, laidLooks := .later }
def HostAddressCardSaid : Prop := Claim7.holds Tryd.pinned (.plain (OpenSpec.ofChange hostAddressSpec)) hostAddressCard

/-- THE TIED CARD OF 'certpathlaw08.HostNested'. -/
def hostNestedCard : Claim7 := { stood := { row := hostNestedRow, standIns := [], harness := (true, "c6f61250aa8d1b3998b78a63b2be5c13d37c9ad0a878b26525ad1e4599f18700"), looks := false }, kinds := [], alts := [], laidByText := true, laidKinds := [.data, .pinned], laidTests := true, laidLooks := .later }
def HostNestedCardSaid : Prop := Claim7.holds Tryd.pinned (.plain (OpenSpec.ofChange hostNestedSpec)) hostNestedCard

/-- THE SECOND FORM's CARD OF 'certpathlaw08.HostNames'. -/
def hostNamesUptoCard : Claim7 := { stood := { row := hostNamesUptoRow, standIns := [], harness := (true, "c6f61250aa8d1b3998b78a63b2be5c13d37c9ad0a878b26525ad1e4599f18700"), looks := false }, kinds := [], alts := [], laidByText := true, laidKinds := [.data, .pinned], laidTests := true, laidLooks := .later }
def HostNamesUptoCardSaid : Prop := Claim7.holds Tryd.pinned (.plain (OpenSpec.upto hostNamesSpec)) hostNamesUptoCard

/-- THE SECOND FORM's CARD OF 'certpathlaw08.HostLong'. -/
def hostLongUptoCard : Claim7 := { stood := { row := hostLongUptoRow, standIns := [], harness := (true, "c6f61250aa8d1b3998b78a63b2be5c13d37c9ad0a878b26525ad1e4599f18700"), looks := false }, kinds := [], alts := [], laidByText := true, laidKinds := [.data, .pinned], laidTests := true, laidLooks := .later }
def HostLongUptoCardSaid : Prop := Claim7.holds Tryd.pinned (.plain (OpenSpec.upto hostLongSpec)) hostLongUptoCard

/-- THE SECOND FORM's CARD OF 'certpathlaw08.HostMail'. -/
def hostMailUptoCard : Claim7 := { stood := { row := hostMailUptoRow, standIns := [], harness := (true, "c6f61250aa8d1b3998b78a63b2be5c13d37c9ad0a878b26525ad1e4599f18700"), looks := false }, kinds := [], alts := [], laidByText := true, laidKinds := [.data, .pinned], laidTests := true, laidLooks := .later }
def HostMailUptoCardSaid : Prop := Claim7.holds Tryd.pinned (.plain (OpenSpec.upto hostMailSpec)) hostMailUptoCard

/-- THE SECOND FORM's CARD OF 'certpathlaw08.HostChains'. -/
def hostChainsUptoCard : Claim7 := { stood := { row := hostChainsUptoRow, standIns := [], harness := (true, "c6f61250aa8d1b3998b78a63b2be5c13d37c9ad0a878b26525ad1e4599f18700"), looks := false }, kinds := [], alts := [], laidByText := true, laidKinds := [.data, .pinned], laidTests := true, laidLooks := .later }
def HostChainsUptoCardSaid : Prop := Claim7.holds Tryd.pinned (.plain (OpenSpec.upto hostChainsSpec)) hostChainsUptoCard

/-- THE SECOND FORM's CARD OF 'certpathlaw08.HostDNSMatch'. -/
def hostDNSMatchUptoCard : Claim7 := { stood := { row := hostDNSMatchUptoRow, standIns := [], harness := (true, "c6f61250aa8d1b3998b78a63b2be5c13d37c9ad0a878b26525ad1e4599f18700"), looks := false }, kinds := [], alts := [], laidByText := true, laidKinds := [.data, .pinned], laidTests := true, laidLooks := .later }
def HostDNSMatchUptoCardSaid : Prop := Claim7.holds Tryd.pinned (.plain (OpenSpec.upto hostDNSMatchSpec)) hostDNSMatchUptoCard

/-- THE SECOND FORM's CARD OF 'certpathlaw08.HostAddress'. -/
def hostAddressUptoCard : Claim7 := { stood := { row := hostAddressUptoRow, standIns := [], harness := (true, "c6f61250aa8d1b3998b78a63b2be5c13d37c9ad0a878b26525ad1e4599f18700"), looks := false }, kinds := [], alts := [], laidByText := true, laidKinds := [.data, .pinned], laidTests := true, laidLooks := .later }
def HostAddressUptoCardSaid : Prop := Claim7.holds Tryd.pinned (.plain (OpenSpec.upto hostAddressSpec)) hostAddressUptoCard

/-- THE SECOND FORM's CARD OF 'certpathlaw08.HostNested'. -/
def hostNestedUptoCard : Claim7 := { stood := { row := hostNestedUptoRow, standIns := [], harness := (true, "c6f61250aa8d1b3998b78a63b2be5c13d37c9ad0a878b26525ad1e4599f18700"), looks := false }, kinds := [], alts := [], laidByText := true, laidKinds := [.data, .pinned], laidTests := true, laidLooks := .later }
def HostNestedUptoCardSaid : Prop := Claim7.holds Tryd.pinned (.plain (OpenSpec.upto hostNestedSpec)) hostNestedUptoCard
end Rows
end Go.Proofs.YtegmenlonpgnpaaDoor
