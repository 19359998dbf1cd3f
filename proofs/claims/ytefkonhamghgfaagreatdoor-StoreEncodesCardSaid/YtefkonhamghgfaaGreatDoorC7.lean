/-
  Part C7 of the way: an interpreter over pure data, its soundness, walks through functions.
-/
import Derived.Test.YtefkonhamghgfaaGreatDoorC1
import Derived.Test.YtefkonhamghgfaaGreatDoorC2
import Derived.Test.YtefkonhamghgfaaGreatDoorC3
import Derived.Test.YtefkonhamghgfaaGreatDoorC4
import Derived.Test.YtefkonhamghgfaaGreatDoorC5
import Derived.Test.YtefkonhamghgfaaGreatDoorC6
set_option linter.all false

set_option maxHeartbeats 40000000
open Go.Proofs.Tryz
noncomputable section
namespace Go.Kz
open Go Go.Proofs
set_option maxRecDepth 100000
def O8:List (List PD×PD):=aEQ++(aER++(aES++(aET)))
theorem aPB:(O8.all (eS prog mO 1000 138))=true:=by
 unfold O8
 simp only[List.all_append,aPC,aPD,aPE,aPF,Bool.and_self]
def Bt1:aD:=mO.add 138 (fun _ args σ=>match oE O8 args with|some p=>some (p,σ)|none=>none)
theorem aPG:aE prog Bt1:=aEU.xS aU O8 aPB
def KO:List (List PD×PD):=aEV++(aEW++(aEX++(aEY++(aEZ++(aE0++(aE1++(aE2++(aE3++(aE4++(aE5++(aE6)))))))))))
theorem aPH:(KO.all (eS prog mO 1000 140))=true:=by
 unfold KO
 simp only[List.all_append,aPI,aPJ,aPK,aPL,aPM,aPN,aPO,aPP,aPQ,aPR,aPS,aPT,Bool.and_self]
def aPU:aD:=mO.add 140 (fun _ args σ=>match oE KO args with|some p=>some (p,σ)|none=>none)
theorem aPV:aE prog aPU:=aEU.xS aU KO aPH
def pF:aD:=Bt1.add 140 (fun _ args σ=>match oE KO args with|some p=>some (p,σ)|none=>none)
theorem aA5:aE prog pF:=aE.pick aPV aPG (if_pos rfl)
end Go.Kz
end
