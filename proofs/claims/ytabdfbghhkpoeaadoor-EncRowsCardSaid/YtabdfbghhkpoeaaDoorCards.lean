/-
  DERIVED. GIVEN WITH THE SEED: THE CARDS: each row of YtabdfbghhkpoeaaDoorRows.lean that lists a variable, with what it lists TIED to the program's text (the seventh form; the later family's looks); each row that meets fmt, with fmt's text TOLD by the authors' own Lean function (tested against real Go, not proved from fmt's source: count such statements apart). THE CARD IS WHAT COUNTS. Prove the row's statement (the work); the ties are given (YtabdfbghhkpoeaaDoorTie.lean); close each card by the builder's one call (the guide's Derived/Test/ToyasCard.lean, 'card_holds'). Laid BY PROGRAM, IN A SANDBOX (cutbox-door.mjs). By AI agents, Wed Nov 11 2026. No macro, syntax, notation, axiom, sorry.
-/
import Derived.Test.YtabdfbghhkpoeaaDoorRows
import GoSem.ClaimSeven
namespace Go.Proofs.YtabdfbghhkpoeaaDoor
namespace Rows

/-- THE TIED CARD OF 'typecaselaw08.EncPuts'. -/
def encPutsCard : Claim7 := { stood := { row := encPutsRow, standIns := [], harness := (true, "c4cd7beeccfeec87eef97d0dbb72e940f154fa640d17be099d3d74fe8255a40e"), looks := false }, kinds := [], alts := [], laidByText := true, laidKinds := [.data, .data, .data], laidTests := true, laidLooks := .later }
def EncPutsCardSaid : Prop := Claim7.holds Tryd.pinned (.plain (OpenSpec.ofChange encPutsSpec)) encPutsCard

/-- THE TIED CARD OF 'typecaselaw08.EncGets'. -/
def encGetsCard : Claim7 := { stood := { row := encGetsRow, standIns := [], harness := (true, "c4cd7beeccfeec87eef97d0dbb72e940f154fa640d17be099d3d74fe8255a40e"), looks := false }, kinds := [], alts := [], laidByText := true, laidKinds := [.data, .data, .data], laidTests := true, laidLooks := .later }
def EncGetsCardSaid : Prop := Claim7.holds Tryd.pinned (.plain (OpenSpec.ofChange encGetsSpec)) encGetsCard

/-- THE TIED CARD OF 'typecaselaw08.EncRows'. -/
def encRowsCard : Claim7 := { stood := { row := encRowsRow, standIns := [], harness := (true, "c4cd7beeccfeec87eef97d0dbb72e940f154fa640d17be099d3d74fe8255a40e"), looks := false }, kinds := [], alts := [], laidByText := true, laidKinds := [.data, .data, .data], laidTests := true, laidLooks := .later }
def EncRowsCardSaid : Prop := Claim7.holds Tryd.pinned (.plain (OpenSpec.ofChange encRowsSpec)) encRowsCard

/-- THE TIED CARD OF 'typecaselaw08.EncApart'. -/
def encApartCard : Claim7 := { stood := { row := encApartRow, standIns := [], harness := (true, "c4cd7beeccfeec87eef97d0dbb72e940f154fa640d17be099d3d74fe8255a40e"), looks := false }, kinds := [], alts := [], laidByText := true, laidKinds := [.data, .data, .data], laidTests := true, laidLooks := .later }
def EncApartCardSaid : Prop := Claim7.holds Tryd.pinned (.plain (OpenSpec.ofChange encApartSpec)) encApartCard

/-- THE SECOND FORM's CARD OF 'typecaselaw08.EncPuts'. -/
def encPutsUptoCard : Claim7 := { stood := { row := encPutsUptoRow, standIns := [], harness := (true, "c4cd7beeccfeec87eef97d0dbb72e940f154fa640d17be099d3d74fe8255a40e"), looks := false }, kinds := [], alts := [], laidByText := true, laidKinds := [.data, .data, .data], laidTests := true, laidLooks := .later }
def EncPutsUptoCardSaid : Prop := Claim7.holds Tryd.pinned (.plain (OpenSpec.upto encPutsSpec)) encPutsUptoCard

/-- THE SECOND FORM's CARD OF 'typecaselaw08.EncGets'. -/
def encGetsUptoCard : Claim7 := { stood := { row := encGetsUptoRow, standIns := [], harness := (true, "c4cd7beeccfeec87eef97d0dbb72e940f154fa640d17be099d3d74fe8255a40e"), looks := false }, kinds := [], alts := [], laidByText := true, laidKinds := [.data, .data, .data], laidTests := true, laidLooks := .later }
def EncGetsUptoCardSaid : Prop := Claim7.holds Tryd.pinned (.plain (OpenSpec.upto encGetsSpec)) encGetsUptoCard

/-- THE SECOND FORM's CARD OF 'typecaselaw08.EncRows'. -/
def encRowsUptoCard : Claim7 := { stood := { row := encRowsUptoRow, standIns := [], harness := (true, "c4cd7beeccfeec87eef97d0dbb72e940f154fa640d17be099d3d74fe8255a40e"), looks := false }, kinds := [], alts := [], laidByText := true, laidKinds := [.data, .data, .data], laidTests := true, laidLooks := .later }
def EncRowsUptoCardSaid : Prop := Claim7.holds Tryd.pinned (.plain (OpenSpec.upto encRowsSpec)) encRowsUptoCard

/-- THE SECOND FORM's CARD OF 'typecaselaw08.EncApart'. -/
def encApartUptoCard : Claim7 := { stood := { row := encApartUptoRow, standIns := [], harness := (true, "c4cd7beeccfeec87eef97d0dbb72e940f154fa640d17be099d3d74fe8255a40e"), looks := false }, kinds := [], alts := [], laidByText := true, laidKinds := [.data, .data, .data], laidTests := true, laidLooks := .later }
def EncApartUptoCardSaid : Prop := Claim7.holds Tryd.pinned (.plain (OpenSpec.upto encApartSpec)) encApartUptoCard
end Rows
end Go.Proofs.YtabdfbghhkpoeaaDoor
