/-
  DERIVED. GIVEN WITH THE SEED: THE CARDS: each row of YtfkfpkhgoijfdaaGreatDoorRows.lean that lists a variable, with what it lists TIED to the program's text (the seventh form; the later family's looks); each row that meets fmt, with fmt's text TOLD by the authors' own Lean function (tested against real Go, not proved from fmt's source: count such statements apart). THE CARD IS WHAT COUNTS. Prove the row's statement (the work); the ties are given (YtfkfpkhgoijfdaaGreatDoorTie.lean); close each card by the builder's one call (the guide's Derived/Test/ToyasCard.lean, 'card_holds'). Laid BY PROGRAM, IN A SANDBOX (cutbox-door.mjs). By AI agents, Wed Nov 11 2026. No macro, syntax, notation, axiom, sorry.
-/
import Derived.Test.YtfkfpkhgoijfdaaGreatDoorRows
import GoSem.ClaimSeven
namespace Go.Proofs.YtfkfpkhgoijfdaaGreatDoor
namespace Rows

/-- THE TIED CARD OF 'casuistlaw22.ListfunWhole'. -/
def listfunWholeCard : Claim7 := { stood := { row := listfunWholeRow, standIns := [], harness := (true, "3a866c4d451e5123ac24e1f60a613a2a9599154f0e5a8fe20df84bcee316db64"), looks := true }, kinds := [], alts := [], laidByText := true, laidKinds := [.data, .data, .data, .data, .sentinel, .sentinel, .pinned], laidTests := true, laidLooks := .later }
def ListfunWholeCardSaid : Prop := Claim7.holds Tryz.pinned (.plain (OpenSpec.ofChange listfunWholeSpec)) listfunWholeCard

/-- THE TIED CARD OF 'casuistlaw22.ListfunPlaces'. -/
def listfunPlacesCard : Claim7 := { stood := { row := listfunPlacesRow, standIns := [], harness := (true, "3a866c4d451e5123ac24e1f60a613a2a9599154f0e5a8fe20df84bcee316db64"), looks := true }, kinds := [], alts := [], laidByText := true, laidKinds := [.data, .data, .data, .data, .sentinel, .sentinel, .pinned], laidTests := true, laidLooks := .later }
def ListfunPlacesCardSaid : Prop := Claim7.holds Tryz.pinned (.plain (OpenSpec.ofChange listfunPlacesSpec)) listfunPlacesCard

/-- THE TIED CARD OF 'casuistlaw22.ListfunTruths'. -/
def listfunTruthsCard : Claim7 := { stood := { row := listfunTruthsRow, standIns := [], harness := (true, "3a866c4d451e5123ac24e1f60a613a2a9599154f0e5a8fe20df84bcee316db64"), looks := true }, kinds := [], alts := [], laidByText := true, laidKinds := [.data, .data, .data, .data, .sentinel, .sentinel, .pinned], laidTests := true, laidLooks := .later }
def ListfunTruthsCardSaid : Prop := Claim7.holds Tryz.pinned (.plain (OpenSpec.ofChange listfunTruthsSpec)) listfunTruthsCard

/-- THE SECOND FORM's CARD OF 'casuistlaw22.ListfunWhole'. -/
def listfunWholeUptoCard : Claim7 := { stood := { row := listfunWholeUptoRow, standIns := [], harness := (true, "3a866c4d451e5123ac24e1f60a613a2a9599154f0e5a8fe20df84bcee316db64"), looks := true }, kinds := [], alts := [], laidByText := true, laidKinds := [.data, .data, .data, .data, .sentinel, .sentinel, .pinned], laidTests := true, laidLooks := .later }
def ListfunWholeUptoCardSaid : Prop := Claim7.holds Tryz.pinned (.plain (OpenSpec.upto listfunWholeSpec)) listfunWholeUptoCard

/-- THE SECOND FORM's CARD OF 'casuistlaw22.ListfunPlaces'. -/
def listfunPlacesUptoCard : Claim7 := { stood := { row := listfunPlacesUptoRow, standIns := [], harness := (true, "3a866c4d451e5123ac24e1f60a613a2a9599154f0e5a8fe20df84bcee316db64"), looks := true }, kinds := [], alts := [], laidByText := true, laidKinds := [.data, .data, .data, .data, .sentinel, .sentinel, .pinned], laidTests := true, laidLooks := .later }
def ListfunPlacesUptoCardSaid : Prop := Claim7.holds Tryz.pinned (.plain (OpenSpec.upto listfunPlacesSpec)) listfunPlacesUptoCard

/-- THE SECOND FORM's CARD OF 'casuistlaw22.ListfunTruths'. -/
def listfunTruthsUptoCard : Claim7 := { stood := { row := listfunTruthsUptoRow, standIns := [], harness := (true, "3a866c4d451e5123ac24e1f60a613a2a9599154f0e5a8fe20df84bcee316db64"), looks := true }, kinds := [], alts := [], laidByText := true, laidKinds := [.data, .data, .data, .data, .sentinel, .sentinel, .pinned], laidTests := true, laidLooks := .later }
def ListfunTruthsUptoCardSaid : Prop := Claim7.holds Tryz.pinned (.plain (OpenSpec.upto listfunTruthsSpec)) listfunTruthsUptoCard
end Rows
end Go.Proofs.YtfkfpkhgoijfdaaGreatDoor
