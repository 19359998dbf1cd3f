/-
  Part P7 of the way: an interpreter over pure data, its soundness, walks through functions.
-/
import Derived.Test.YtkmkgiaejlkjlaaGreatP5
set_option linter.all false

/-
  The closed calls of function 7 run.
-/
set_option maxRecDepth 100000
namespace Go.Kz
open Go Go.Proofs
theorem pu_7_all : (pu_7.all (pureRun Tryz.prog Pu4 1000 7)) = true := by kernel_rfl
end Go.Kz
