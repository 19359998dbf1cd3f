/-
  Part K4 of the way: an interpreter over pure data, its soundness, walks through functions.
-/
import Derived.Test.YtefkonhamghgfaaGreatDoorK1
import Derived.Test.YtefkonhamghgfaaGreatDoorK2
import Derived.Test.YtefkonhamghgfaaGreatDoorK3
set_option linter.all false

namespace Go.Kz
open Go Go.Proofs
theorem Pu0_ok:ExtOk Tryz.prog Pu0:=ClE_ok
theorem Pu1_ok:ExtOk Tryz.prog Pu1:=Pu0_ok.addPures fol pu_60 pu_60_all
theorem Pu2_ok:ExtOk Tryz.prog Pu2:=Pu1_ok.addPures fol pu_10 pu_10_all
theorem Pu3_ok:ExtOk Tryz.prog Pu3:=Pu2_ok.addPures fol pu_63 pu_63_all
theorem Pu4_ok:ExtOk Tryz.prog Pu4:=Pu3_ok.addPures fol pu_51 pu_51_all
theorem Pu5_ok:ExtOk Tryz.prog Pu5:=Pu4_ok.addPuresB fol pu_20 pu_20_all
theorem Pu6_ok:ExtOk Tryz.prog Pu6:=Pu5_ok.addPures fol pu_19 pu_19_all
theorem Pu7_ok:ExtOk Tryz.prog Pu7:=Pu6_ok.addPures fol pu_22 pu_22_all
theorem PuE_ok:ExtOk Tryz.prog PuE:=Pu7_ok
end Go.Kz
