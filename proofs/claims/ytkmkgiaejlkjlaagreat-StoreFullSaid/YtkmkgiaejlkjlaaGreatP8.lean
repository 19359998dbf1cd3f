/-
  Part P8 of the way: an interpreter over pure data, its soundness, walks through functions.
-/
import Derived.Test.YtkmkgiaejlkjlaaGreatP5
import Derived.Test.YtkmkgiaejlkjlaaGreatP6
import Derived.Test.YtkmkgiaejlkjlaaGreatP7
set_option linter.all false

/-
  The tables of closed calls are sound.
-/
namespace Go.Kz
open Go Go.Proofs
theorem Pu0_ok : ExtOk Tryz.prog Pu0 := ClE_ok
theorem Pu1_ok : ExtOk Tryz.prog Pu1 := Pu0_ok.addPures fol pu_29 pu_29_all
theorem Pu2_ok : ExtOk Tryz.prog Pu2 := Pu1_ok.addPures fol pu_26 pu_26_all
theorem Pu3_ok : ExtOk Tryz.prog Pu3 := Pu2_ok.addPures fol pu_32 pu_32_all
theorem Pu4_ok : ExtOk Tryz.prog Pu4 := Pu3_ok.addPures fol pu_56 pu_56_all
theorem Pu5_ok : ExtOk Tryz.prog Pu5 := Pu4_ok.addPures fol pu_7 pu_7_all
theorem Pu6_ok : ExtOk Tryz.prog Pu6 := Pu5_ok.addPures fol pu_10 pu_10_all
theorem Pu7_ok : ExtOk Tryz.prog Pu7 := Pu6_ok.addPures fol pu_12 pu_12_all
theorem PuE_ok : ExtOk Tryz.prog PuE := Pu7_ok
end Go.Kz

/-
  known runs.
-/
namespace Go.Kz
open Go Go.Proofs
set_option maxRecDepth 100000
theorem PuK_ok : ExtOk Tryz.prog (PuE.add 5 (entry (gf0 Em.bool (some true)))) := PuE_ok.addOnceF (f := 5) (N := 1000) fol (by kernel_rfl)
end Go.Kz
