/-
  The reference's numbers, digit by digit.
-/
import Derived.Test.YtpambeengdhhmaaGreatDoorVcN
import Derived.Test.YtpambeengdhhmaaGreatDoorPure
namespace Go.Proofs.YtpambeengdhhmaaGreatDoor
open Go.RowKit
set_option linter.unusedVariables false
set_option linter.unusedSimpArgs false
set_option maxRecDepth 100000

end Go.Proofs.YtpambeengdhhmaaGreatDoor
