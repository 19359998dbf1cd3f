/- Steps of the proof. -/
import Derived.Test.YteegpeenjdgodaaGreatDoorSC
set_option linter.all false
set_option maxHeartbeats 40000000
set_option maxRecDepth 100000
open Go.Proofs.Tryz
namespace Go.Kz
open Go Go.Proofs
def aFW:List (List PD×PD):=xI 8 1 [0,-12,12,-24,-19,-28,-31,-36]
theorem aRo:(aFW.all (iV prog rV 1000 69))=true:=Cf
def aFX:List (List PD×PD):=(xI 8 1 [0,0,0,0,0,0,0,0,24,-7,-16,5,-34,-43,-48,36]).drop 8
theorem aRp:(aFX.all (iV prog rV 1000 69))=true:=Cf
def aFY:List (List PD×PD):=xI 4 1 [12,0,24,-12,-7,-16,-19,-24]
theorem aRq:(aFY.all (iV prog rV 1000 69))=true:=Cf
def aFZ:List (List PD×PD):=(xI 4 1 [0,0,0,0,0,0,0,0,36,5,-4,17,-22,-31,-36,48]).drop 8
theorem aRr:(aFZ.all (iV prog rV 1000 69))=true:=Cf
def aF0:List (List PD×PD):=xI 16 1 [-12,-24,0,-36,-31,-40,-43,-48]
theorem aRs:(aF0.all (iV prog rV 1000 69))=true:=Cf
def aF1:List (List PD×PD):=(xI 16 1 [0,0,0,0,0,0,0,0,12,-19,-28,-7,-46,-55,-60,24]).drop 8
theorem aRt:(aF1.all (iV prog rV 1000 69))=true:=Cf
def aF2:List (List PD×PD):=xI 8 3 [19,7,31,-5,0,-9,-12,-17]
theorem aRu:(aF2.all (iV prog rV 1000 69))=true:=Cf
def aF3:List (List PD×PD):=(xI 8 3 [0,0,0,0,0,0,0,0,43,12,3,24,-15,-24,-29,55]).drop 8
theorem aRv:(aF3.all (iV prog rV 1000 69))=true:=Cf
def aF4:List (List PD×PD):=xI 2 1 [24,12,36,0,5,-4,-7,-12]
theorem aRw:(aF4.all (iV prog rV 1000 69))=true:=Cf
def aF5:List (List PD×PD):=(xI 2 1 [0,0,0,0,0,0,0,0,48,17,8,29,-10,-19,-24,60]).drop 8
theorem aRx:(aF5.all (iV prog rV 1000 69))=true:=Cf
def aF6:List (List PD×PD):=xI 8 5 [28,16,40,4,9,0,-3,-8]
theorem aRy:(aF6.all (iV prog rV 1000 69))=true:=Cf
def aF7:List (List PD×PD):=(xI 8 5 [0,0,0,0,0,0,0,0,52,21,12,33,-6,-15,-20,64]).drop 8
theorem aRz:(aF7.all (iV prog rV 1000 69))=true:=Cf
def NL:List (List PD×PD):=aFW++(aFX++(aFY++(aFZ++(aF0++(aF1++(aF2++(aF3++(aF4++(aF5++(aF6++(aF7)))))))))))
theorem aRn:(NL.all (iV prog rV 1000 69))=true:=by
 unfold NL;simp only[yDF,aRo,aRp,aRq,aRr,aRs,aRt,aRu,aRv,aRw,aRx,aRy,aRz,yCh]
noncomputable def Bt3:aE:=rV.add 69 (λ_ args σ=>match sJ NL args with|some p=>some (p,σ)|none=>none)
theorem aRc:aF prog Bt3:=aFT.PM bS NL aRn
end Go.Kz
