/-
  Numbers as rows of digits.
-/
import Derived.Test.YtpambeengdhhmaaGreatDoorVcX
namespace Go.Proofs.YtpambeengdhhmaaGreatDoor
open Go.RowKit
set_option linter.unusedVariables false
set_option linter.unusedSimpArgs false
set_option maxRecDepth 100000

/-- Digits as they read. -/
def dg (ds : List Nat) : List DV := ds.map fun (d : Nat) => .v (.int .i64 (d : Int))
theorem dg_len (ds : List Nat) : (dg ds).length = ds.length := by simp [dg]
theorem allOne_dg : ∀ ds, allOne (dg ds) = true
  | [] => rfl
  | d :: ds => by
    show (DV.one _ && allOne (dg ds)) = true
    rw [allOne_dg ds]
    rfl
end Go.Proofs.YtpambeengdhhmaaGreatDoor
