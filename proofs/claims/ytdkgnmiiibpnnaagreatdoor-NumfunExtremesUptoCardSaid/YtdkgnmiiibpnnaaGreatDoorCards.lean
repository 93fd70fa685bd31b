/-
  DERIVED. GIVEN WITH THE SEED: THE CARDS: each row of YtdkgnmiiibpnnaaGreatDoorRows.lean that lists a variable, with what it lists TIED to the program's text (the seventh form; the later family's looks); each row that meets fmt, with fmt's text TOLD by the authors' own Lean function (tested against real Go, not proved from fmt's source: count such statements apart). THE CARD IS WHAT COUNTS. Prove the row's statement (the work); the ties are given (YtdkgnmiiibpnnaaGreatDoorTie.lean); close each card by the builder's one call (the guide's Derived/Test/ToyasCard.lean, 'card_holds'). Laid BY PROGRAM, IN A SANDBOX (cutbox-door.mjs). By AI agents, Wed Nov 11 2026. No macro, syntax, notation, axiom, sorry.
-/
import Derived.Test.YtdkgnmiiibpnnaaGreatDoorRows
import GoSem.ClaimSeven
namespace Go.Proofs.YtdkgnmiiibpnnaaGreatDoor
namespace Rows

/-- THE TIED CARD OF 'casuistlaw20.NumfunArith'. -/
def numfunArithCard : Claim7 := { stood := { row := numfunArithRow, standIns := [], harness := (true, "c38daf4d5ad53db1d3582305c3b3b092c57d61dc4d12175cf5451ed7a749363d"), looks := true }, kinds := [], alts := [], laidByText := true, laidKinds := [.data, .data, .data, .data, .sentinel, .sentinel, .pinned], laidTests := true, laidLooks := .later }
def NumfunArithCardSaid : Prop := Claim7.holds Tryz.pinned (.plain (OpenSpec.ofChange numfunArithSpec)) numfunArithCard

/-- THE TIED CARD OF 'casuistlaw20.NumfunRounds'. -/
def numfunRoundsCard : Claim7 := { stood := { row := numfunRoundsRow, standIns := [], harness := (true, "c38daf4d5ad53db1d3582305c3b3b092c57d61dc4d12175cf5451ed7a749363d"), looks := true }, kinds := [], alts := [], laidByText := true, laidKinds := [.data, .data, .data, .data, .sentinel, .sentinel, .pinned], laidTests := true, laidLooks := .later }
def NumfunRoundsCardSaid : Prop := Claim7.holds Tryz.pinned (.plain (OpenSpec.ofChange numfunRoundsSpec)) numfunRoundsCard

/-- THE TIED CARD OF 'casuistlaw20.NumfunExtremes'. -/
def numfunExtremesCard : Claim7 := { stood := { row := numfunExtremesRow, standIns := [], harness := (true, "c38daf4d5ad53db1d3582305c3b3b092c57d61dc4d12175cf5451ed7a749363d"), looks := true }, kinds := [], alts := [], laidByText := true, laidKinds := [.data, .data, .data, .data, .sentinel, .sentinel, .pinned], laidTests := true, laidLooks := .later }
def NumfunExtremesCardSaid : Prop := Claim7.holds Tryz.pinned (.plain (OpenSpec.ofChange numfunExtremesSpec)) numfunExtremesCard

/-- THE SECOND FORM's CARD OF 'casuistlaw20.NumfunArith'. -/
def numfunArithUptoCard : Claim7 := { stood := { row := numfunArithUptoRow, standIns := [], harness := (true, "c38daf4d5ad53db1d3582305c3b3b092c57d61dc4d12175cf5451ed7a749363d"), looks := true }, kinds := [], alts := [], laidByText := true, laidKinds := [.data, .data, .data, .data, .sentinel, .sentinel, .pinned], laidTests := true, laidLooks := .later }
def NumfunArithUptoCardSaid : Prop := Claim7.holds Tryz.pinned (.plain (OpenSpec.upto numfunArithSpec)) numfunArithUptoCard

/-- THE SECOND FORM's CARD OF 'casuistlaw20.NumfunRounds'. -/
def numfunRoundsUptoCard : Claim7 := { stood := { row := numfunRoundsUptoRow, standIns := [], harness := (true, "c38daf4d5ad53db1d3582305c3b3b092c57d61dc4d12175cf5451ed7a749363d"), looks := true }, kinds := [], alts := [], laidByText := true, laidKinds := [.data, .data, .data, .data, .sentinel, .sentinel, .pinned], laidTests := true, laidLooks := .later }
def NumfunRoundsUptoCardSaid : Prop := Claim7.holds Tryz.pinned (.plain (OpenSpec.upto numfunRoundsSpec)) numfunRoundsUptoCard

/-- THE SECOND FORM's CARD OF 'casuistlaw20.NumfunExtremes'. -/
def numfunExtremesUptoCard : Claim7 := { stood := { row := numfunExtremesUptoRow, standIns := [], harness := (true, "c38daf4d5ad53db1d3582305c3b3b092c57d61dc4d12175cf5451ed7a749363d"), looks := true }, kinds := [], alts := [], laidByText := true, laidKinds := [.data, .data, .data, .data, .sentinel, .sentinel, .pinned], laidTests := true, laidLooks := .later }
def NumfunExtremesUptoCardSaid : Prop := Claim7.holds Tryz.pinned (.plain (OpenSpec.upto numfunExtremesSpec)) numfunExtremesUptoCard
end Rows
end Go.Proofs.YtdkgnmiiibpnnaaGreatDoor
