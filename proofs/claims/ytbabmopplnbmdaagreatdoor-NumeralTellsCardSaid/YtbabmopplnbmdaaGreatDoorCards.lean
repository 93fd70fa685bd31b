/-
  DERIVED. GIVEN WITH THE SEED: THE CARDS: each row of YtbabmopplnbmdaaGreatDoorRows.lean that lists a variable, with what it lists TIED to the program's text (the seventh form; the later family's looks); each row that meets fmt, with fmt's text TOLD by the authors' own Lean function (tested against real Go, not proved from fmt's source: count such statements apart). THE CARD IS WHAT COUNTS. Prove the row's statement (the work); the ties are given (YtbabmopplnbmdaaGreatDoorTie.lean); close each card by the builder's one call (the guide's Derived/Test/ToyasCard.lean, 'card_holds'). Laid BY PROGRAM, IN A SANDBOX (cutbox-door.mjs). By AI agents, Wed Nov 11 2026. No macro, syntax, notation, axiom, sorry.
-/
import Derived.Test.YtbabmopplnbmdaaGreatDoorRows
import GoSem.ClaimSeven
namespace Go.Proofs.YtbabmopplnbmdaaGreatDoor
namespace Rows

/-- THE TIED CARD OF 'casuistlaw05.NumeralReads'. -/
def numeralReadsCard : Claim7 := { stood := { row := numeralReadsRow, standIns := [], harness := (true, "5cfb3eac53d791a4fa27b26ca87a697feb465a4988519ccb6309ef89eb5c5910"), looks := true }, kinds := [], alts := [], laidByText := true, laidKinds := [.data, .data, .data, .data, .sentinel, .sentinel, .pinned], laidTests := true, laidLooks := .later }
def NumeralReadsCardSaid : Prop := Claim7.holds Tryz.pinned (.plain (OpenSpec.ofChange numeralReadsSpec)) numeralReadsCard

/-- THE TIED CARD OF 'casuistlaw05.NumeralTells'. -/
def numeralTellsCard : Claim7 := { stood := { row := numeralTellsRow, standIns := [], harness := (true, "5cfb3eac53d791a4fa27b26ca87a697feb465a4988519ccb6309ef89eb5c5910"), looks := true }, kinds := [], alts := [], laidByText := true, laidKinds := [.data, .data, .data, .data, .sentinel, .sentinel, .pinned], laidTests := true, laidLooks := .later }
def NumeralTellsCardSaid : Prop := Claim7.holds Tryz.pinned (.plain (OpenSpec.ofChange numeralTellsSpec)) numeralTellsCard

/-- THE SECOND FORM's CARD OF 'casuistlaw05.NumeralReads'. -/
def numeralReadsUptoCard : Claim7 := { stood := { row := numeralReadsUptoRow, standIns := [], harness := (true, "5cfb3eac53d791a4fa27b26ca87a697feb465a4988519ccb6309ef89eb5c5910"), looks := true }, kinds := [], alts := [], laidByText := true, laidKinds := [.data, .data, .data, .data, .sentinel, .sentinel, .pinned], laidTests := true, laidLooks := .later }
def NumeralReadsUptoCardSaid : Prop := Claim7.holds Tryz.pinned (.plain (OpenSpec.upto numeralReadsSpec)) numeralReadsUptoCard

/-- THE SECOND FORM's CARD OF 'casuistlaw05.NumeralTells'. -/
def numeralTellsUptoCard : Claim7 := { stood := { row := numeralTellsUptoRow, standIns := [], harness := (true, "5cfb3eac53d791a4fa27b26ca87a697feb465a4988519ccb6309ef89eb5c5910"), looks := true }, kinds := [], alts := [], laidByText := true, laidKinds := [.data, .data, .data, .data, .sentinel, .sentinel, .pinned], laidTests := true, laidLooks := .later }
def NumeralTellsUptoCardSaid : Prop := Claim7.holds Tryz.pinned (.plain (OpenSpec.upto numeralTellsSpec)) numeralTellsUptoCard
end Rows
end Go.Proofs.YtbabmopplnbmdaaGreatDoor
