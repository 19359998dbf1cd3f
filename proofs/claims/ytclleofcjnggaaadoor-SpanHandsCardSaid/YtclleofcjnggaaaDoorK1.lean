/-
  The chapter's examples hold: one closed run.
-/
import Derived.Test.YtclleofcjnggaaaDoorKzZi
import Derived.Test.YtclleofcjnggaaaDoorProg
import Derived.KernelRfl
set_option linter.all false
namespace Go.Kz
open Go.Proofs

theorem known_run : (match pcall Tryd.prog (fun _ => none) 1000 0 (.inl 12) [] [] with | some (.bool true, _) => true | _ => false) = true := by kernel_rfl

end Go.Kz
