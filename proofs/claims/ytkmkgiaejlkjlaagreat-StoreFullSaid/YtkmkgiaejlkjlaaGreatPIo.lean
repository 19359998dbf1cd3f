/-
  Part PIo of the way: an interpreter over pure data, its soundness, walks through functions.
-/
import Derived.Test.YtkmkgiaejlkjlaaGreatP9
set_option linter.all false

/-
  Chapter 53: entries 188 to 195 made again.
-/
namespace Go.Kz
open Go Go.Proofs
set_option maxRecDepth 100000
theorem rp_188 : ((List.range' 188 8).all chkR) = true := by kernel_rfl
end Go.Kz
