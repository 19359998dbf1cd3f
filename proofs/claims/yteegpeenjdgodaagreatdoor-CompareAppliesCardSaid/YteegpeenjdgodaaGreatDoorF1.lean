/- Steps of the proof. -/
import Derived.Test.YteegpeenjdgodaaGreatDoorC1
set_option linter.all false
set_option maxHeartbeats 40000000
set_option maxRecDepth 100000
open Go.Proofs.Tryz
namespace Go.Kz
open Go Go.Proofs
def aGy:List (List PD×PD):=xD 8 1 [0,-12,12,-24,-19,-28,-31,-36]
theorem aRU:(aGy.all (iT prog rW 1000 69))=true:=Cl
def aGz:List (List PD×PD):=(xD 8 1 [0,0,0,0,0,0,0,0,24,-7,-16,5,-34,-43,-48,36]).drop 8
theorem aRV:(aGz.all (iT prog rW 1000 69))=true:=Cl
def aGA:List (List PD×PD):=xD 4 1 [12,0,24,-12,-7,-16,-19,-24]
theorem aRW:(aGA.all (iT prog rW 1000 69))=true:=Cl
def aGB:List (List PD×PD):=(xD 4 1 [0,0,0,0,0,0,0,0,36,5,-4,17,-22,-31,-36,48]).drop 8
theorem aRX:(aGB.all (iT prog rW 1000 69))=true:=Cl
def aGC:List (List PD×PD):=xD 16 1 [-12,-24,0,-36,-31,-40,-43,-48]
theorem aRY:(aGC.all (iT prog rW 1000 69))=true:=Cl
def aGD:List (List PD×PD):=(xD 16 1 [0,0,0,0,0,0,0,0,12,-19,-28,-7,-46,-55,-60,24]).drop 8
theorem aRZ:(aGD.all (iT prog rW 1000 69))=true:=Cl
def aGE:List (List PD×PD):=xD 8 3 [19,7,31,-5,0,-9,-12,-17]
theorem aR0:(aGE.all (iT prog rW 1000 69))=true:=Cl
def aGF:List (List PD×PD):=(xD 8 3 [0,0,0,0,0,0,0,0,43,12,3,24,-15,-24,-29,55]).drop 8
theorem aR1:(aGF.all (iT prog rW 1000 69))=true:=Cl
def aGG:List (List PD×PD):=xD 2 1 [24,12,36,0,5,-4,-7,-12]
theorem aR2:(aGG.all (iT prog rW 1000 69))=true:=Cl
def aGH:List (List PD×PD):=(xD 2 1 [0,0,0,0,0,0,0,0,48,17,8,29,-10,-19,-24,60]).drop 8
theorem aR3:(aGH.all (iT prog rW 1000 69))=true:=Cl
def aGI:List (List PD×PD):=xD 8 5 [28,16,40,4,9,0,-3,-8]
theorem aR4:(aGI.all (iT prog rW 1000 69))=true:=Cl
def aGJ:List (List PD×PD):=(xD 8 5 [0,0,0,0,0,0,0,0,52,21,12,33,-6,-15,-20,64]).drop 8
theorem aR5:(aGJ.all (iT prog rW 1000 69))=true:=Cl
def N2:List (List PD×PD):=aGy++(aGz++(aGA++(aGB++(aGC++(aGD++(aGE++(aGF++(aGG++(aGH++(aGI++(aGJ)))))))))))
theorem aRT:(N2.all (iT prog rW 1000 69))=true:=by
 unfold N2;simp only[yDH,aRU,aRV,aRW,aRX,aRY,aRZ,aR0,aR1,aR2,aR3,aR4,aR5,yCr]
noncomputable def Bt3:aE:=rW.add 69 (λ_ args σ=>match sL N2 args with|some p=>some (p,σ)|none=>none)
theorem aRJ:aF prog Bt3:=aGv.QE bK N2 aRT
end Go.Kz
