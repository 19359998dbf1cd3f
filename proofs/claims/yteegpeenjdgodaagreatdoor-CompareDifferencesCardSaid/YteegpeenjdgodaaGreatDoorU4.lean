/- Steps of the proof. -/
import Derived.Test.YteegpeenjdgodaaGreatDoorU8
set_option linter.all false
set_option maxHeartbeats 40000000
set_option maxRecDepth 100000
open Go.Proofs.Tryz
namespace Go.Kz
open Go Go.Proofs
section
variable{E:aE}(hU:aH E)
include hU
end
section
variable{E:aE}(hU:aH E)
include hU
end
section
variable{E:aE}(hU:aH E)
include hU
end
section
variable{E:aE}(hU:aH E)
include hU
end
end Go.Kz
