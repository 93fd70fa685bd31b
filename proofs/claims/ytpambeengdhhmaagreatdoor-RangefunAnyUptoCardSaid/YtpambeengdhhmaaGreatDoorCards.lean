/-
  DERIVED. GIVEN WITH THE SEED: THE CARDS: each row of YtpambeengdhhmaaGreatDoorRows.lean that lists a variable, with what it lists TIED to the program's text (the seventh form; the later family's looks); each row that meets fmt, with fmt's text TOLD by the authors' own Lean function (tested against real Go, not proved from fmt's source: count such statements apart). THE CARD IS WHAT COUNTS. Prove the row's statement (the work); the ties are given (YtpambeengdhhmaaGreatDoorTie.lean); close each card by the builder's one call (the guide's Derived/Test/ToyasCard.lean, 'card_holds'). Laid BY PROGRAM, IN A SANDBOX (cutbox-door.mjs). By AI agents, Wed Nov 11 2026. No macro, syntax, notation, axiom, sorry.
-/
import Derived.Test.YtpambeengdhhmaaGreatDoorRows
import GoSem.ClaimSeven
namespace Go.Proofs.YtpambeengdhhmaaGreatDoor
namespace Rows

/-- THE TIED CARD OF 'casuistlaw12.EqualTruths'. -/
def equalTruthsCard : Claim7 := { stood := { row := equalTruthsRow, standIns := [], harness := (true, "97020b811526aa3ba1baba992fe9aa2bf05ade1d2a229610d500317b831c0179"), looks := true }, kinds := [], alts := [], laidByText := true, laidKinds := [.data, .data, .data, .data, .sentinel, .sentinel, .pinned], laidTests := true, laidLooks := .later }
def EqualTruthsCardSaid : Prop := Claim7.holds Tryz.pinned (.plain (OpenSpec.ofChange equalTruthsSpec)) equalTruthsCard

/-- THE TIED CARD OF 'casuistlaw12.EqualWithin'. -/
def equalWithinCard : Claim7 := { stood := { row := equalWithinRow, standIns := [], harness := (true, "97020b811526aa3ba1baba992fe9aa2bf05ade1d2a229610d500317b831c0179"), looks := true }, kinds := [], alts := [], laidByText := true, laidKinds := [.data, .data, .data, .data, .sentinel, .sentinel, .pinned], laidTests := true, laidLooks := .later }
def EqualWithinCardSaid : Prop := Claim7.holds Tryz.pinned (.plain (OpenSpec.ofChange equalWithinSpec)) equalWithinCard

/-- THE TIED CARD OF 'casuistlaw12.EqualTurns'. -/
def equalTurnsCard : Claim7 := { stood := { row := equalTurnsRow, standIns := [], harness := (true, "97020b811526aa3ba1baba992fe9aa2bf05ade1d2a229610d500317b831c0179"), looks := true }, kinds := [], alts := [], laidByText := true, laidKinds := [.data, .data, .data, .data, .sentinel, .sentinel, .pinned], laidTests := true, laidLooks := .later }
def EqualTurnsCardSaid : Prop := Claim7.holds Tryz.pinned (.plain (OpenSpec.ofChange equalTurnsSpec)) equalTurnsCard

/-- THE TIED CARD OF 'casuistlaw23.RangefunAny'. -/
def rangefunAnyCard : Claim7 := { stood := { row := rangefunAnyRow, standIns := [], harness := (true, "97020b811526aa3ba1baba992fe9aa2bf05ade1d2a229610d500317b831c0179"), looks := true }, kinds := [], alts := [], laidByText := true, laidKinds := [.data, .data, .data, .data, .sentinel, .sentinel, .pinned], laidTests := true, laidLooks := .later }
def RangefunAnyCardSaid : Prop := Claim7.holds Tryz.pinned (.plain (OpenSpec.ofChange rangefunAnySpec)) rangefunAnyCard

/-- THE TIED CARD OF 'casuistlaw12.EqualAmong'. -/
def equalAmongCard : Claim7 := { stood := { row := equalAmongRow, standIns := [], harness := (true, "97020b811526aa3ba1baba992fe9aa2bf05ade1d2a229610d500317b831c0179"), looks := true }, kinds := [], alts := [], laidByText := true, laidKinds := [.data, .data, .data, .data, .sentinel, .sentinel, .pinned], laidTests := true, laidLooks := .later }
def EqualAmongCardSaid : Prop := Claim7.holds Tryz.pinned (.plain (OpenSpec.ofChange equalAmongSpec)) equalAmongCard

/-- THE SECOND FORM's CARD OF 'casuistlaw12.EqualTruths'. -/
def equalTruthsUptoCard : Claim7 := { stood := { row := equalTruthsUptoRow, standIns := [], harness := (true, "97020b811526aa3ba1baba992fe9aa2bf05ade1d2a229610d500317b831c0179"), looks := true }, kinds := [], alts := [], laidByText := true, laidKinds := [.data, .data, .data, .data, .sentinel, .sentinel, .pinned], laidTests := true, laidLooks := .later }
def EqualTruthsUptoCardSaid : Prop := Claim7.holds Tryz.pinned (.plain (OpenSpec.upto equalTruthsSpec)) equalTruthsUptoCard

/-- THE SECOND FORM's CARD OF 'casuistlaw12.EqualWithin'. -/
def equalWithinUptoCard : Claim7 := { stood := { row := equalWithinUptoRow, standIns := [], harness := (true, "97020b811526aa3ba1baba992fe9aa2bf05ade1d2a229610d500317b831c0179"), looks := true }, kinds := [], alts := [], laidByText := true, laidKinds := [.data, .data, .data, .data, .sentinel, .sentinel, .pinned], laidTests := true, laidLooks := .later }
def EqualWithinUptoCardSaid : Prop := Claim7.holds Tryz.pinned (.plain (OpenSpec.upto equalWithinSpec)) equalWithinUptoCard

/-- THE SECOND FORM's CARD OF 'casuistlaw12.EqualTurns'. -/
def equalTurnsUptoCard : Claim7 := { stood := { row := equalTurnsUptoRow, standIns := [], harness := (true, "97020b811526aa3ba1baba992fe9aa2bf05ade1d2a229610d500317b831c0179"), looks := true }, kinds := [], alts := [], laidByText := true, laidKinds := [.data, .data, .data, .data, .sentinel, .sentinel, .pinned], laidTests := true, laidLooks := .later }
def EqualTurnsUptoCardSaid : Prop := Claim7.holds Tryz.pinned (.plain (OpenSpec.upto equalTurnsSpec)) equalTurnsUptoCard

/-- THE SECOND FORM's CARD OF 'casuistlaw23.RangefunAny'. -/
def rangefunAnyUptoCard : Claim7 := { stood := { row := rangefunAnyUptoRow, standIns := [], harness := (true, "97020b811526aa3ba1baba992fe9aa2bf05ade1d2a229610d500317b831c0179"), looks := true }, kinds := [], alts := [], laidByText := true, laidKinds := [.data, .data, .data, .data, .sentinel, .sentinel, .pinned], laidTests := true, laidLooks := .later }
def RangefunAnyUptoCardSaid : Prop := Claim7.holds Tryz.pinned (.plain (OpenSpec.upto rangefunAnySpec)) rangefunAnyUptoCard

/-- THE SECOND FORM's CARD OF 'casuistlaw12.EqualAmong'. -/
def equalAmongUptoCard : Claim7 := { stood := { row := equalAmongUptoRow, standIns := [], harness := (true, "97020b811526aa3ba1baba992fe9aa2bf05ade1d2a229610d500317b831c0179"), looks := true }, kinds := [], alts := [], laidByText := true, laidKinds := [.data, .data, .data, .data, .sentinel, .sentinel, .pinned], laidTests := true, laidLooks := .later }
def EqualAmongUptoCardSaid : Prop := Claim7.holds Tryz.pinned (.plain (OpenSpec.upto equalAmongSpec)) equalAmongUptoCard
end Rows
end Go.Proofs.YtpambeengdhhmaaGreatDoor
