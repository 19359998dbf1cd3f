/-
  Part K1 of the way: an interpreter over pure data, its soundness, walks through functions.
-/
import Derived.Test.YtefkonhamghgfaaGreatDoorK0
set_option linter.all false

set_option maxHeartbeats 40000000
open Go.Proofs.Tryz
set_option maxRecDepth 100000
namespace Go.Kz
open Go Go.Proofs
theorem aQa:(W9.all (eS prog W7 1000 60))=true:=by kernel_rfl
end Go.Kz
set_option maxRecDepth 100000
namespace Go.Kz
open Go Go.Proofs
theorem aQc:(XB.all (eS prog W8 1000 10))=true:=by kernel_rfl
end Go.Kz
set_option maxRecDepth 100000
namespace Go.Kz
open Go Go.Proofs
theorem aQg:(XF.all (eS prog XC 1000 51))=true:=by kernel_rfl
end Go.Kz
set_option maxRecDepth 100000
namespace Go.Kz
open Go Go.Proofs
theorem aQk:(XJ.all (eS prog XG 1000 19))=true:=by kernel_rfl
end Go.Kz
set_option maxRecDepth 100000
namespace Go.Kz
open Go Go.Proofs
theorem aQm:(XK.all (eS prog XI 1000 22))=true:=by kernel_rfl
end Go.Kz
