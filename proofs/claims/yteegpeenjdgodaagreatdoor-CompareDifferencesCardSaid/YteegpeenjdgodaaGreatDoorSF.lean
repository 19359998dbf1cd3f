/- Steps of the proof. -/
import Derived.Test.YteegpeenjdgodaaGreatDoorSC
set_option linter.all false
set_option maxHeartbeats 40000000
set_option maxRecDepth 100000
open Go.Proofs.Tryz
namespace Go.Kz
open Go Go.Proofs
def aD5:List (List PD×PD):=uS 8 1 [0,-12,12,-24,-19,-28,-31,-36]
theorem aOQ:(aD5.all (gD prog pX 1000 69))=true:=yf
def aD6:List (List PD×PD):=(uS 8 1 [0,0,0,0,0,0,0,0,24,-7,-16,5,-34,-43,-48,36]).drop 8
theorem aOR:(aD6.all (gD prog pX 1000 69))=true:=yf
def aD7:List (List PD×PD):=uS 4 1 [12,0,24,-12,-7,-16,-19,-24]
theorem aOS:(aD7.all (gD prog pX 1000 69))=true:=yf
def aD8:List (List PD×PD):=(uS 4 1 [0,0,0,0,0,0,0,0,36,5,-4,17,-22,-31,-36,48]).drop 8
theorem aOT:(aD8.all (gD prog pX 1000 69))=true:=yf
def aD9:List (List PD×PD):=uS 16 1 [-12,-24,0,-36,-31,-40,-43,-48]
theorem aOU:(aD9.all (gD prog pX 1000 69))=true:=yf
def aEa:List (List PD×PD):=(uS 16 1 [0,0,0,0,0,0,0,0,12,-19,-28,-7,-46,-55,-60,24]).drop 8
theorem aOV:(aEa.all (gD prog pX 1000 69))=true:=yf
def aEb:List (List PD×PD):=uS 8 3 [19,7,31,-5,0,-9,-12,-17]
theorem aOW:(aEb.all (gD prog pX 1000 69))=true:=yf
def aEc:List (List PD×PD):=(uS 8 3 [0,0,0,0,0,0,0,0,43,12,3,24,-15,-24,-29,55]).drop 8
theorem aOX:(aEc.all (gD prog pX 1000 69))=true:=yf
def aEd:List (List PD×PD):=uS 2 1 [24,12,36,0,5,-4,-7,-12]
theorem aOY:(aEd.all (gD prog pX 1000 69))=true:=yf
def aEe:List (List PD×PD):=(uS 2 1 [0,0,0,0,0,0,0,0,48,17,8,29,-10,-19,-24,60]).drop 8
theorem aOZ:(aEe.all (gD prog pX 1000 69))=true:=yf
def aEf:List (List PD×PD):=uS 8 5 [28,16,40,4,9,0,-3,-8]
theorem aO0:(aEf.all (gD prog pX 1000 69))=true:=yf
def aEg:List (List PD×PD):=(uS 8 5 [0,0,0,0,0,0,0,0,52,21,12,33,-6,-15,-20,64]).drop 8
theorem aO1:(aEg.all (gD prog pX 1000 69))=true:=yf
def KO:List (List PD×PD):=aD5++(aD6++(aD7++(aD8++(aD9++(aEa++(aEb++(aEc++(aEd++(aEe++(aEf++(aEg)))))))))))
theorem aOP:(KO.all (gD prog pX 1000 69))=true:=by
 unfold KO;simp only[yDG,aOQ,aOR,aOS,aOT,aOU,aOV,aOW,aOX,aOY,aOZ,aO0,aO1,yCo]
noncomputable def Bt3:aE:=pX.add 69 (λ_ args σ=>match qR KO args with|some p=>some (p,σ)|none=>none)
theorem aOE:aF prog Bt3:=aD1.MY bK KO aOP
end Go.Kz
