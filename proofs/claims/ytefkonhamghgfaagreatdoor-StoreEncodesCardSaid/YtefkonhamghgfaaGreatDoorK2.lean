/-
  Part K2 of the way: an interpreter over pure data, its soundness, walks through functions.
-/
import Derived.Test.YtefkonhamghgfaaGreatDoorK0
set_option linter.all false

set_option maxHeartbeats 40000000
open Go.Proofs.Tryz
set_option maxRecDepth 100000
namespace Go.Kz
open Go Go.Proofs
theorem aQe:(XD.all (eS prog XA 1000 63))=true:=by kernel_rfl
end Go.Kz
