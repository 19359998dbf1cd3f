/- Steps of the proof. -/
import Derived.Test.YteegpeenjdgodaaGreatDoorI2
set_option linter.all false
set_option maxHeartbeats 40000000
set_option maxRecDepth 100000
open Go.Proofs.Tryz
namespace Go.Kz
open Go Go.Proofs
section
variable{E E1 E3 E5 Eo:aE}
end
section
variable{E E1 E3 E5 Eo:aE}
end
end Go.Kz
