/-
  DERIVED. GIVEN WITH THE SEED: THE CARDS: each row of YtcbibefbjfhdcaaDoorRows.lean that lists a variable, with what it lists TIED to the program's text (the seventh form; the later family's looks); each row that meets fmt, with fmt's text TOLD by the authors' own Lean function (tested against real Go, not proved from fmt's source: count such statements apart). THE CARD IS WHAT COUNTS. Prove the row's statement (the work); the ties are given (YtcbibefbjfhdcaaDoorTie.lean); close each card by the builder's one call (the guide's Derived/Test/ToyasCard.lean, 'card_holds'). Laid BY PROGRAM, IN A SANDBOX (cutbox-door.mjs). By AI agents, Wed Nov 11 2026. No macro, syntax, notation, axiom, sorry.
-/
import Derived.Test.YtcbibefbjfhdcaaDoorRows
import GoSem.ClaimSeven
namespace Go.Proofs.YtcbibefbjfhdcaaDoor
namespace Rows

/-- THE TIED CARD OF 'typecaselaw03.InsMay'. -/
def insMayCard : Claim7 := { stood := { row := insMayRow, standIns := [], harness := (true, "2b19f8467d2acf850a1b675e29556413d421c6e3fd71a52baa515bcd4dca11a7"), looks := false }, kinds := [], alts := [], laidByText := true, laidKinds := [.data, .data, .data, .data, .data], laidTests := true, laidLooks := .later }
def InsMayCardSaid : Prop := Claim7.holds Tryd.pinned (.plain (OpenSpec.ofChange insMaySpec)) insMayCard

/-- THE TIED CARD OF 'typecaselaw03.InsNames'. -/
def insNamesCard : Claim7 := { stood := { row := insNamesRow, standIns := [], harness := (true, "2b19f8467d2acf850a1b675e29556413d421c6e3fd71a52baa515bcd4dca11a7"), looks := false }, kinds := [], alts := [], laidByText := true, laidKinds := [.data, .data, .data, .data, .data], laidTests := true, laidLooks := .later }
def InsNamesCardSaid : Prop := Claim7.holds Tryd.pinned (.plain (OpenSpec.ofChange insNamesSpec)) insNamesCard

/-- THE TIED CARD OF 'typecaselaw03.InsRegs'. -/
def insRegsCard : Claim7 := { stood := { row := insRegsRow, standIns := [], harness := (true, "2b19f8467d2acf850a1b675e29556413d421c6e3fd71a52baa515bcd4dca11a7"), looks := false }, kinds := [], alts := [], laidByText := true, laidKinds := [.data, .data, .data, .data, .data], laidTests := true, laidLooks := .later }
def InsRegsCardSaid : Prop := Claim7.holds Tryd.pinned (.plain (OpenSpec.ofChange insRegsSpec)) insRegsCard

/-- THE TIED CARD OF 'typecaselaw23.ShowTexts'. -/
def showTextsCard : Claim7 := { stood := { row := showTextsRow, standIns := [], harness := (true, "2b19f8467d2acf850a1b675e29556413d421c6e3fd71a52baa515bcd4dca11a7"), looks := false }, kinds := [], alts := [], laidByText := true, laidKinds := [.data, .data, .data, .data, .data], laidTests := true, laidLooks := .later }
def ShowTextsCardSaid : Prop := Claim7.holds Tryd.pinned (.plain (OpenSpec.ofChange showTextsSpec)) showTextsCard

/-- THE TIED CARD OF 'typecaselaw23.ShowApart'. -/
def showApartCard : Claim7 := { stood := { row := showApartRow, standIns := [], harness := (true, "2b19f8467d2acf850a1b675e29556413d421c6e3fd71a52baa515bcd4dca11a7"), looks := false }, kinds := [], alts := [], laidByText := true, laidKinds := [.data, .data, .data, .data, .data], laidTests := true, laidLooks := .later }
def ShowApartCardSaid : Prop := Claim7.holds Tryd.pinned (.plain (OpenSpec.ofChange showApartSpec)) showApartCard

/-- THE TIED CARD OF 'typecaselaw23.ShowNames'. -/
def showNamesCard : Claim7 := { stood := { row := showNamesRow, standIns := [], harness := (true, "2b19f8467d2acf850a1b675e29556413d421c6e3fd71a52baa515bcd4dca11a7"), looks := false }, kinds := [], alts := [], laidByText := true, laidKinds := [.data, .data, .data, .data, .data], laidTests := true, laidLooks := .later }
def ShowNamesCardSaid : Prop := Claim7.holds Tryd.pinned (.plain (OpenSpec.ofChange showNamesSpec)) showNamesCard

/-- THE SECOND FORM's CARD OF 'typecaselaw03.InsMay'. -/
def insMayUptoCard : Claim7 := { stood := { row := insMayUptoRow, standIns := [], harness := (true, "2b19f8467d2acf850a1b675e29556413d421c6e3fd71a52baa515bcd4dca11a7"), looks := false }, kinds := [], alts := [], laidByText := true, laidKinds := [.data, .data, .data, .data, .data], laidTests := true, laidLooks := .later }
def InsMayUptoCardSaid : Prop := Claim7.holds Tryd.pinned (.plain (OpenSpec.upto insMaySpec)) insMayUptoCard

/-- THE SECOND FORM's CARD OF 'typecaselaw03.InsNames'. -/
def insNamesUptoCard : Claim7 := { stood := { row := insNamesUptoRow, standIns := [], harness := (true, "2b19f8467d2acf850a1b675e29556413d421c6e3fd71a52baa515bcd4dca11a7"), looks := false }, kinds := [], alts := [], laidByText := true, laidKinds := [.data, .data, .data, .data, .data], laidTests := true, laidLooks := .later }
def InsNamesUptoCardSaid : Prop := Claim7.holds Tryd.pinned (.plain (OpenSpec.upto insNamesSpec)) insNamesUptoCard

/-- THE SECOND FORM's CARD OF 'typecaselaw03.InsRegs'. -/
def insRegsUptoCard : Claim7 := { stood := { row := insRegsUptoRow, standIns := [], harness := (true, "2b19f8467d2acf850a1b675e29556413d421c6e3fd71a52baa515bcd4dca11a7"), looks := false }, kinds := [], alts := [], laidByText := true, laidKinds := [.data, .data, .data, .data, .data], laidTests := true, laidLooks := .later }
def InsRegsUptoCardSaid : Prop := Claim7.holds Tryd.pinned (.plain (OpenSpec.upto insRegsSpec)) insRegsUptoCard

/-- THE SECOND FORM's CARD OF 'typecaselaw23.ShowTexts'. -/
def showTextsUptoCard : Claim7 := { stood := { row := showTextsUptoRow, standIns := [], harness := (true, "2b19f8467d2acf850a1b675e29556413d421c6e3fd71a52baa515bcd4dca11a7"), looks := false }, kinds := [], alts := [], laidByText := true, laidKinds := [.data, .data, .data, .data, .data], laidTests := true, laidLooks := .later }
def ShowTextsUptoCardSaid : Prop := Claim7.holds Tryd.pinned (.plain (OpenSpec.upto showTextsSpec)) showTextsUptoCard

/-- THE SECOND FORM's CARD OF 'typecaselaw23.ShowApart'. -/
def showApartUptoCard : Claim7 := { stood := { row := showApartUptoRow, standIns := [], harness := (true, "2b19f8467d2acf850a1b675e29556413d421c6e3fd71a52baa515bcd4dca11a7"), looks := false }, kinds := [], alts := [], laidByText := true, laidKinds := [.data, .data, .data, .data, .data], laidTests := true, laidLooks := .later }
def ShowApartUptoCardSaid : Prop := Claim7.holds Tryd.pinned (.plain (OpenSpec.upto showApartSpec)) showApartUptoCard

/-- THE SECOND FORM's CARD OF 'typecaselaw23.ShowNames'. -/
def showNamesUptoCard : Claim7 := { stood := { row := showNamesUptoRow, standIns := [], harness := (true, "2b19f8467d2acf850a1b675e29556413d421c6e3fd71a52baa515bcd4dca11a7"), looks := false }, kinds := [], alts := [], laidByText := true, laidKinds := [.data, .data, .data, .data, .data], laidTests := true, laidLooks := .later }
def ShowNamesUptoCardSaid : Prop := Claim7.holds Tryd.pinned (.plain (OpenSpec.upto showNamesSpec)) showNamesUptoCard
end Rows
end Go.Proofs.YtcbibefbjfhdcaaDoor
