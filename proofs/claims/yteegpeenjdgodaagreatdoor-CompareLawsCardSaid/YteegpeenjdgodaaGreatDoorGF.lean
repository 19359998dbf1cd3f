/- Steps of the proof. -/
import Derived.Test.YteegpeenjdgodaaGreatDoorGC
set_option linter.all false
set_option maxHeartbeats 40000000
set_option maxRecDepth 100000
open Go.Proofs.Tryz
namespace Go.Kz
open Go Go.Proofs
def aFG:List (List PD×PD):=vL 8 1 [0,-12,12,-24,-19,-28,-31,-36]
theorem aRf:(aFG.all (gX prog qR 1000 69))=true:=Aj
def aFH:List (List PD×PD):=(vL 8 1 [0,0,0,0,0,0,0,0,24,-7,-16,5,-34,-43,-48,36]).drop 8
theorem aRg:(aFH.all (gX prog qR 1000 69))=true:=Aj
def aFI:List (List PD×PD):=vL 4 1 [12,0,24,-12,-7,-16,-19,-24]
theorem aRh:(aFI.all (gX prog qR 1000 69))=true:=Aj
def aFJ:List (List PD×PD):=(vL 4 1 [0,0,0,0,0,0,0,0,36,5,-4,17,-22,-31,-36,48]).drop 8
theorem aRi:(aFJ.all (gX prog qR 1000 69))=true:=Aj
def aFK:List (List PD×PD):=vL 16 1 [-12,-24,0,-36,-31,-40,-43,-48]
theorem aRj:(aFK.all (gX prog qR 1000 69))=true:=Aj
def aFL:List (List PD×PD):=(vL 16 1 [0,0,0,0,0,0,0,0,12,-19,-28,-7,-46,-55,-60,24]).drop 8
theorem aRk:(aFL.all (gX prog qR 1000 69))=true:=Aj
def aFM:List (List PD×PD):=vL 8 3 [19,7,31,-5,0,-9,-12,-17]
theorem aRl:(aFM.all (gX prog qR 1000 69))=true:=Aj
def aFN:List (List PD×PD):=(vL 8 3 [0,0,0,0,0,0,0,0,43,12,3,24,-15,-24,-29,55]).drop 8
theorem aRm:(aFN.all (gX prog qR 1000 69))=true:=Aj
def aFO:List (List PD×PD):=vL 2 1 [24,12,36,0,5,-4,-7,-12]
theorem aRn:(aFO.all (gX prog qR 1000 69))=true:=Aj
def aFP:List (List PD×PD):=(vL 2 1 [0,0,0,0,0,0,0,0,48,17,8,29,-10,-19,-24,60]).drop 8
theorem aRo:(aFP.all (gX prog qR 1000 69))=true:=Aj
def aFQ:List (List PD×PD):=vL 8 5 [28,16,40,4,9,0,-3,-8]
theorem aRp:(aFQ.all (gX prog qR 1000 69))=true:=Aj
def aFR:List (List PD×PD):=(vL 8 5 [0,0,0,0,0,0,0,0,52,21,12,33,-6,-15,-20,64]).drop 8
theorem aRq:(aFR.all (gX prog qR 1000 69))=true:=Aj
def LY:List (List PD×PD):=aFG++(aFH++(aFI++(aFJ++(aFK++(aFL++(aFM++(aFN++(aFO++(aFP++(aFQ++(aFR)))))))))))
theorem aRe:(LY.all (gX prog qR 1000 69))=true:=by
 unfold LY;simp only[yDH,aRf,aRg,aRh,aRi,aRj,aRk,aRl,aRm,aRn,aRo,aRp,aRq,yCn]
noncomputable def Bt3:aE:=qR.add 69 (λ_ args σ=>match rE LY args with|some p=>some (p,σ)|none=>none)
theorem aQ2:aF prog Bt3:=aFB.N6 bI LY aRe
end Go.Kz
