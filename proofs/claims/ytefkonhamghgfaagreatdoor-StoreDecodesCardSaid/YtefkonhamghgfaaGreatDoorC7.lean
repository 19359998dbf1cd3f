/-
  Part C7 of the way: an interpreter over pure data, its soundness, walks through functions.
-/
import Derived.Test.YtefkonhamghgfaaGreatDoorC1
import Derived.Test.YtefkonhamghgfaaGreatDoorC2
import Derived.Test.YtefkonhamghgfaaGreatDoorC3
import Derived.Test.YtefkonhamghgfaaGreatDoorC4
import Derived.Test.YtefkonhamghgfaaGreatDoorC5
import Derived.Test.YtefkonhamghgfaaGreatDoorC6
set_option linter.all false

namespace Go.Kz
open Go Go.Proofs
set_option maxRecDepth 100000
def Bt1L:List (List PD×PD):=puCa0++(puCa1++(puCb0++(puCb1)))
theorem Bt1L_all:(Bt1L.all (pureRun Tryz.prog Bs8 1000 138))=true:=by
 unfold Bt1L
 simp only [List.all_append,puCa0_all,puCa1_all,puCb0_all,puCb1_all,Bool.and_self]
noncomputable def Bt1:PExt:=Bs8.add 138 (fun _ args σ=>match gPures Bt1L args with | some p=>some (p,σ) | none=>none)
theorem Bt1_ok:ExtOk Tryz.prog Bt1:=Bs8_ok.addPures fol Bt1L Bt1L_all
def Bt2xL:List (List PD×PD):=puDa0++(puDa1++(puDa2++(puDb0++(puDb1++(puDb2++(puDc0++(puDc1++(puDc2++(puDd0++(puDd1++(puDd2)))))))))))
theorem Bt2xL_all:(Bt2xL.all (pureRun Tryz.prog Bs8 1000 140))=true:=by
 unfold Bt2xL
 simp only [List.all_append,puDa0_all,puDa1_all,puDa2_all,puDb0_all,puDb1_all,puDb2_all,puDc0_all,puDc1_all,puDc2_all,puDd0_all,puDd1_all,puDd2_all,Bool.and_self]
noncomputable def Bt2x:PExt:=Bs8.add 140 (fun _ args σ=>match gPures Bt2xL args with | some p=>some (p,σ) | none=>none)
theorem Bt2x_ok:ExtOk Tryz.prog Bt2x:=Bs8_ok.addPures fol Bt2xL Bt2xL_all
noncomputable def Bt2:PExt:=Bt1.add 140 (fun _ args σ=>match gPures Bt2xL args with | some p=>some (p,σ) | none=>none)
theorem Bt2_ok:ExtOk Tryz.prog Bt2:=ExtOk.pick Bt2x_ok Bt1_ok (if_pos rfl)
end Go.Kz
