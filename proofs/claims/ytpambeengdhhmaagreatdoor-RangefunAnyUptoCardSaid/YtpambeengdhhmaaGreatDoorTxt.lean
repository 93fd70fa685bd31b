/-
  wide: a number's text; the number of a text.
-/
import Derived.Test.YtpambeengdhhmaaGreatDoorVcM
import Derived.Test.YtpambeengdhhmaaGreatDoorVcY
import Derived.Laws.RangeAny
namespace Go.Proofs.YtpambeengdhhmaaGreatDoor
open Go.RowKit
set_option linter.unusedVariables false
set_option linter.unusedSimpArgs false
set_option maxRecDepth 100000

-- texts out of digits
end Go.Proofs.YtpambeengdhhmaaGreatDoor
