/-
  Part PIg of the way: an interpreter over pure data, its soundness, walks through functions.
-/
import Derived.Test.YtkmkgiaejlkjlaaGreatP9
set_option linter.all false

/-
  Chapter 53: entries 111 to 122 made again.
-/
namespace Go.Kz
open Go Go.Proofs
set_option maxRecDepth 100000
theorem rp_111 : ((List.range' 111 12).all chkR) = true := by kernel_rfl
end Go.Kz
