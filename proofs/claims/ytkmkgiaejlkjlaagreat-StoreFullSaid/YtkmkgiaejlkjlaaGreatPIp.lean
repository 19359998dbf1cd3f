/-
  Part PIp of the way: an interpreter over pure data, its soundness, walks through functions.
-/
import Derived.Test.YtkmkgiaejlkjlaaGreatP9
set_option linter.all false

/-
  Chapter 53: entries 196 to 198 made again.
-/
namespace Go.Kz
open Go Go.Proofs
set_option maxRecDepth 100000
theorem rp_196 : ((List.range' 196 3).all chkR) = true := by kernel_rfl
end Go.Kz
