/-
  DERIVED. GIVEN WITH THE SEED: THE CARDS: each row of YtimpaejpokkdnaaDoorRows.lean that lists a variable, with what it lists TIED to the program's text (the seventh form; the later family's looks); each row that meets fmt, with fmt's text TOLD by the authors' own Lean function (tested against real Go, not proved from fmt's source: count such statements apart). THE CARD IS WHAT COUNTS. Prove the row's statement (the work); the ties are given (YtimpaejpokkdnaaDoorTie.lean); close each card by the builder's one call (the guide's Derived/Test/ToyasCard.lean, 'card_holds'). Laid BY PROGRAM, IN A SANDBOX (cutbox-door.mjs). By AI agents, Wed Nov 11 2026. No macro, syntax, notation, axiom, sorry.
-/
import Derived.Test.YtimpaejpokkdnaaDoorRows
import GoSem.ClaimSeven
namespace Go.Proofs.YtimpaejpokkdnaaDoor
namespace Rows

/-- THE TIED CARD OF 'casuistlaw23.RangefunLead'. -/
def rangefunLeadCard : Claim7 := { stood := { row := rangefunLeadRow, standIns := [], harness := (true, "00672cbb06b5129c8fdd5f55119cfcb3538cda2488468ddaa285a014b6b2d724"), looks := true }, kinds := [], alts := [], laidByText := true, laidKinds := [.data, .pinned], laidTests := true, laidLooks := .later }
def RangefunLeadCardSaid : Prop := Claim7.holds Tryd.pinned (.plain (OpenSpec.ofChange rangefunLeadSpec)) rangefunLeadCard

/-- THE TIED CARD OF 'casuistlaw23.RangefunAlways'. -/
def rangefunAlwaysCard : Claim7 := { stood := { row := rangefunAlwaysRow, standIns := [], harness := (true, "00672cbb06b5129c8fdd5f55119cfcb3538cda2488468ddaa285a014b6b2d724"), looks := true }, kinds := [], alts := [], laidByText := true, laidKinds := [.data, .pinned], laidTests := true, laidLooks := .later }
def RangefunAlwaysCardSaid : Prop := Claim7.holds Tryd.pinned (.plain (OpenSpec.ofChange rangefunAlwaysSpec)) rangefunAlwaysCard

/-- THE SECOND FORM's CARD OF 'casuistlaw23.RangefunLead'. -/
def rangefunLeadUptoCard : Claim7 := { stood := { row := rangefunLeadUptoRow, standIns := [], harness := (true, "00672cbb06b5129c8fdd5f55119cfcb3538cda2488468ddaa285a014b6b2d724"), looks := true }, kinds := [], alts := [], laidByText := true, laidKinds := [.data, .pinned], laidTests := true, laidLooks := .later }
def RangefunLeadUptoCardSaid : Prop := Claim7.holds Tryd.pinned (.plain (OpenSpec.upto rangefunLeadSpec)) rangefunLeadUptoCard

/-- THE SECOND FORM's CARD OF 'casuistlaw23.RangefunAlways'. -/
def rangefunAlwaysUptoCard : Claim7 := { stood := { row := rangefunAlwaysUptoRow, standIns := [], harness := (true, "00672cbb06b5129c8fdd5f55119cfcb3538cda2488468ddaa285a014b6b2d724"), looks := true }, kinds := [], alts := [], laidByText := true, laidKinds := [.data, .pinned], laidTests := true, laidLooks := .later }
def RangefunAlwaysUptoCardSaid : Prop := Claim7.holds Tryd.pinned (.plain (OpenSpec.upto rangefunAlwaysSpec)) rangefunAlwaysUptoCard
end Rows
end Go.Proofs.YtimpaejpokkdnaaDoor
