/-
  Part PIf of the way: an interpreter over pure data, its soundness, walks through functions.
-/
import Derived.Test.YtkmkgiaejlkjlaaGreatP9
set_option linter.all false

/-
  Chapter 53: entries 98 to 110 made again.
-/
namespace Go.Kz
open Go Go.Proofs
set_option maxRecDepth 100000
theorem rp_98 : ((List.range' 98 13).all chkR) = true := by kernel_rfl
end Go.Kz
