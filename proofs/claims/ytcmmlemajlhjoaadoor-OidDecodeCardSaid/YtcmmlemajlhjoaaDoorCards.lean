/-
  DERIVED. GIVEN WITH THE SEED: THE CARDS: each row of YtcmmlemajlhjoaaDoorRows.lean that lists a variable, with what it lists TIED to the program's text (the seventh form; the later family's looks); each row that meets fmt, with fmt's text TOLD by the authors' own Lean function (tested against real Go, not proved from fmt's source: count such statements apart). THE CARD IS WHAT COUNTS. Prove the row's statement (the work); the ties are given (YtcmmlemajlhjoaaDoorTie.lean); close each card by the builder's one call (the guide's Derived/Test/ToyasCard.lean, 'card_holds'). Laid BY PROGRAM, IN A SANDBOX (cutbox-door.mjs). By AI agents, Wed Nov 11 2026. No macro, syntax, notation, axiom, sorry.
-/
import Derived.Test.YtcmmlemajlhjoaaDoorRows
import GoSem.ClaimSeven
namespace Go.Proofs.YtcmmlemajlhjoaaDoor
namespace Rows

/-- THE TIED CARD OF 'certpathlaw04.OidValid'. -/
def oidValidCard : Claim7 := { stood := { row := oidValidRow, standIns := [], harness := (true, "914db8706db00e76f978038ffef7bf4e653396548cfbb5bd607039dbd4f93d57"), looks := false }, kinds := [], alts := [], laidByText := true, laidKinds := [.data, .pinned], laidTests := true, laidLooks := .later }
def OidValidCardSaid : Prop := Claim7.holds Tryd.pinned (.plain (OpenSpec.ofChange oidValidSpec)) oidValidCard

/-- THE TIED CARD OF 'certpathlaw04.OidUnder'. -/
def oidUnderCard : Claim7 := { stood := { row := oidUnderRow, standIns := [], harness := (true, "914db8706db00e76f978038ffef7bf4e653396548cfbb5bd607039dbd4f93d57"), looks := false }, kinds := [], alts := [], laidByText := true, laidKinds := [.data, .pinned], laidTests := true, laidLooks := .later }
def OidUnderCardSaid : Prop := Claim7.holds Tryd.pinned (.plain (OpenSpec.ofChange oidUnderSpec)) oidUnderCard

/-- THE TIED CARD OF 'certpathlaw04.OidOrder'. -/
def oidOrderCard : Claim7 := { stood := { row := oidOrderRow, standIns := [], harness := (true, "914db8706db00e76f978038ffef7bf4e653396548cfbb5bd607039dbd4f93d57"), looks := false }, kinds := [], alts := [], laidByText := true, laidKinds := [.data, .pinned], laidTests := true, laidLooks := .later }
def OidOrderCardSaid : Prop := Claim7.holds Tryd.pinned (.plain (OpenSpec.ofChange oidOrderSpec)) oidOrderCard

/-- THE TIED CARD OF 'certpathlaw04.OidDecode'. -/
def oidDecodeCard : Claim7 := { stood := { row := oidDecodeRow, standIns := [], harness := (true, "914db8706db00e76f978038ffef7bf4e653396548cfbb5bd607039dbd4f93d57"), looks := false }, kinds := [], alts := [], laidByText := true, laidKinds := [.data, .data, .data, .data, .pinned], laidTests := true, laidLooks := .later }
def OidDecodeCardSaid : Prop := Claim7.holds Tryd.pinned (.plain (OpenSpec.ofChange oidDecodeSpec)) oidDecodeCard

/-- THE TIED CARD OF 'certpathlaw04.OidBack'. -/
def oidBackCard : Claim7 := { stood := { row := oidBackRow, standIns := [], harness := (true, "914db8706db00e76f978038ffef7bf4e653396548cfbb5bd607039dbd4f93d57"), looks := false }, kinds := [], alts := [], laidByText := true, laidKinds := [.data, .data, .data, .data, .pinned], laidTests := true, laidLooks := .later }
def OidBackCardSaid : Prop := Claim7.holds Tryd.pinned (.plain (OpenSpec.ofChange oidBackSpec)) oidBackCard

/-- THE SECOND FORM's CARD OF 'certpathlaw04.OidValid'. -/
def oidValidUptoCard : Claim7 := { stood := { row := oidValidUptoRow, standIns := [], harness := (true, "914db8706db00e76f978038ffef7bf4e653396548cfbb5bd607039dbd4f93d57"), looks := false }, kinds := [], alts := [], laidByText := true, laidKinds := [.data, .pinned], laidTests := true, laidLooks := .later }
def OidValidUptoCardSaid : Prop := Claim7.holds Tryd.pinned (.plain (OpenSpec.upto oidValidSpec)) oidValidUptoCard

/-- THE SECOND FORM's CARD OF 'certpathlaw04.OidUnder'. -/
def oidUnderUptoCard : Claim7 := { stood := { row := oidUnderUptoRow, standIns := [], harness := (true, "914db8706db00e76f978038ffef7bf4e653396548cfbb5bd607039dbd4f93d57"), looks := false }, kinds := [], alts := [], laidByText := true, laidKinds := [.data, .pinned], laidTests := true, laidLooks := .later }
def OidUnderUptoCardSaid : Prop := Claim7.holds Tryd.pinned (.plain (OpenSpec.upto oidUnderSpec)) oidUnderUptoCard

/-- THE SECOND FORM's CARD OF 'certpathlaw04.OidOrder'. -/
def oidOrderUptoCard : Claim7 := { stood := { row := oidOrderUptoRow, standIns := [], harness := (true, "914db8706db00e76f978038ffef7bf4e653396548cfbb5bd607039dbd4f93d57"), looks := false }, kinds := [], alts := [], laidByText := true, laidKinds := [.data, .pinned], laidTests := true, laidLooks := .later }
def OidOrderUptoCardSaid : Prop := Claim7.holds Tryd.pinned (.plain (OpenSpec.upto oidOrderSpec)) oidOrderUptoCard

/-- THE SECOND FORM's CARD OF 'certpathlaw04.OidDecode'. -/
def oidDecodeUptoCard : Claim7 := { stood := { row := oidDecodeUptoRow, standIns := [], harness := (true, "914db8706db00e76f978038ffef7bf4e653396548cfbb5bd607039dbd4f93d57"), looks := false }, kinds := [], alts := [], laidByText := true, laidKinds := [.data, .data, .data, .data, .pinned], laidTests := true, laidLooks := .later }
def OidDecodeUptoCardSaid : Prop := Claim7.holds Tryd.pinned (.plain (OpenSpec.upto oidDecodeSpec)) oidDecodeUptoCard

/-- THE SECOND FORM's CARD OF 'certpathlaw04.OidBack'. -/
def oidBackUptoCard : Claim7 := { stood := { row := oidBackUptoRow, standIns := [], harness := (true, "914db8706db00e76f978038ffef7bf4e653396548cfbb5bd607039dbd4f93d57"), looks := false }, kinds := [], alts := [], laidByText := true, laidKinds := [.data, .data, .data, .data, .pinned], laidTests := true, laidLooks := .later }
def OidBackUptoCardSaid : Prop := Claim7.holds Tryd.pinned (.plain (OpenSpec.upto oidBackSpec)) oidBackUptoCard
end Rows
end Go.Proofs.YtcmmlemajlhjoaaDoor
