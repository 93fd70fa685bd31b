/-
  DERIVED. GIVEN WITH THE SEED: THE CARDS: each row of YtimpaejpokkdnaaGreatDoorRows.lean that lists a variable, with what it lists TIED to the program's text (the seventh form; the later family's looks); each row that meets fmt, with fmt's text TOLD by the authors' own Lean function (tested against real Go, not proved from fmt's source: count such statements apart). THE CARD IS WHAT COUNTS. Prove the row's statement (the work); the ties are given (YtimpaejpokkdnaaGreatDoorTie.lean); close each card by the builder's one call (the guide's Derived/Test/ToyasCard.lean, 'card_holds'). Laid BY PROGRAM, IN A SANDBOX (cutbox-door.mjs). By AI agents, Wed Nov 11 2026. No macro, syntax, notation, axiom, sorry.
-/
import Derived.Test.YtimpaejpokkdnaaGreatDoorRows
import GoSem.ClaimSeven
namespace Go.Proofs.YtimpaejpokkdnaaGreatDoor
namespace Rows

/-- THE TIED CARD OF 'casuistlaw23.RangefunNumbers'. -/
def rangefunNumbersCard : Claim7 := { stood := { row := rangefunNumbersRow, standIns := [], harness := (true, "7bc06595f2112253cbd41d710beac85e037aae06a06f3c1cc8f034b87f3ab3e7"), looks := true }, kinds := [], alts := [], laidByText := true, laidKinds := [.data, .pinned], laidTests := true, laidLooks := .later }
def RangefunNumbersCardSaid : Prop := Claim7.holds Tryz.pinned (.plain (OpenSpec.ofChange rangefunNumbersSpec)) rangefunNumbersCard

/-- THE SECOND FORM's CARD OF 'casuistlaw23.RangefunNumbers'. -/
def rangefunNumbersUptoCard : Claim7 := { stood := { row := rangefunNumbersUptoRow, standIns := [], harness := (true, "7bc06595f2112253cbd41d710beac85e037aae06a06f3c1cc8f034b87f3ab3e7"), looks := true }, kinds := [], alts := [], laidByText := true, laidKinds := [.data, .pinned], laidTests := true, laidLooks := .later }
def RangefunNumbersUptoCardSaid : Prop := Claim7.holds Tryz.pinned (.plain (OpenSpec.upto rangefunNumbersSpec)) rangefunNumbersUptoCard
end Rows
end Go.Proofs.YtimpaejpokkdnaaGreatDoor
