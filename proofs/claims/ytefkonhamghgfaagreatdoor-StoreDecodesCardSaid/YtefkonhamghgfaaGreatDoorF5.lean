/-
  Part F5 of the way: an interpreter over pure data, its soundness, walks through functions.
-/
import Derived.Test.YtefkonhamghgfaaGreatDoorF1
import Derived.Test.YtefkonhamghgfaaGreatDoorF2
import Derived.Test.YtefkonhamghgfaaGreatDoorF3
import Derived.Test.YtefkonhamghgfaaGreatDoorF4
set_option linter.all false

namespace Go.Kz
open Go Go.Proofs
set_option maxRecDepth 100000
def Bt3L:List (List PD×PD):=puFa0++(puFa1++(puFa2++(puFb0++(puFb1++(puFb2++(puFc0++(puFc1++(puFc2++(puFd0++(puFd1++(puFd2)))))))))))
theorem Bt3L_all:(Bt3L.all (pureRun Tryz.prog Bt2 1000 70))=true:=by
 unfold Bt3L
 simp only [List.all_append,puFa0_all,puFa1_all,puFa2_all,puFb0_all,puFb1_all,puFb2_all,puFc0_all,puFc1_all,puFc2_all,puFd0_all,puFd1_all,puFd2_all,Bool.and_self]
noncomputable def Bt3:PExt:=Bt2.add 70 (fun _ args σ=>match gPures Bt3L args with | some p=>some (p,σ) | none=>none)
theorem Bt3_ok:ExtOk Tryz.prog Bt3:=Bt2_ok.addPures fol Bt3L Bt3L_all
end Go.Kz
