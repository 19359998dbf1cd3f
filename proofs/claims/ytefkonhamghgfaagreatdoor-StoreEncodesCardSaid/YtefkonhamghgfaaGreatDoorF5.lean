/-
  Part F5 of the way: an interpreter over pure data, its soundness, walks through functions.
-/
import Derived.Test.YtefkonhamghgfaaGreatDoorF1
import Derived.Test.YtefkonhamghgfaaGreatDoorF2
import Derived.Test.YtefkonhamghgfaaGreatDoorF3
import Derived.Test.YtefkonhamghgfaaGreatDoorF4
set_option linter.all false

set_option maxHeartbeats 40000000
open Go.Proofs.Tryz
namespace Go.Kz
open Go Go.Proofs
set_option maxRecDepth 100000
def IF:List (List PD×PD):=aEE++(aEF++(aEG++(aEH++(aEI++(aEJ++(aEK++(aEL++(aEM++(aEN++(aEO++(aEP)))))))))))
theorem aPo:(IF.all (eS prog pF 1000 70))=true:=by
 unfold IF
 simp only[List.all_append,aPp,aPq,aPr,aPs,aPt,aPu,aPv,aPw,aPx,aPy,aPz,aPA,Bool.and_self]
noncomputable def Bt3:aD:=pF.add 70 (fun _ args σ=>match oE IF args with|some p=>some (p,σ)|none=>none)
theorem aH5:aE prog Bt3:=aA5.xS aU IF aPo
end Go.Kz
