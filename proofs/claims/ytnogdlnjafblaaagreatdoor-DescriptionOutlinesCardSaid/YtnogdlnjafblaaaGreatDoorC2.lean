/- Steps of the proof. -/
import Derived.Test.YtnogdlnjafblaaaGreatDoorI9
import Derived.Test.YtnogdlnjafblaaaGreatDoorC1
set_option linter.all false
set_option maxHeartbeats 40000000
set_option maxRecDepth 100000
open Go.Proofs.Tryz
namespace Go.Kz
open Go Go.Proofs
def aQY:List (List PD×PD):=GU 8 3 [19,7,31,-5,0,-9,-12,-17]
theorem a45:(aQY.all (gV prog rA 1000 101))=true:=yp
def aQZ:List (List PD×PD):=(GU 8 3 [0,0,0,0,0,0,0,0,43,12,3,24,-15,-24,-29,55]).drop 8
theorem a47:(aQZ.all (gV prog rA 1000 101))=true:=yp
def aQ0:List (List PD×PD):=GU 2 1 [24,12,36,0,5,-4,-7,-12]
theorem a48:(aQ0.all (gV prog rA 1000 101))=true:=yp
def aQ1:List (List PD×PD):=(GU 2 1 [0,0,0,0,0,0,0,0,48,17,8,29,-10,-19,-24,60]).drop 8
theorem a5a:(aQ1.all (gV prog rA 1000 101))=true:=yp
def aQ2:List (List PD×PD):=GU 8 5 [28,16,40,4,9,0,-3,-8]
theorem a5b:(aQ2.all (gV prog rA 1000 101))=true:=yp
def aQ3:List (List PD×PD):=(GU 8 5 [0,0,0,0,0,0,0,0,52,21,12,33,-6,-15,-20,64]).drop 8
theorem a5c:(aQ3.all (gV prog rA 1000 101))=true:=yp
def Z4:List (List PD×PD):=aQS++(aQT++(aQU++(aQV++(aQW++(aQX++(aQY++(aQZ++(aQ0++(aQ1++(aQ2++(aQ3)))))))))))
theorem a4X:(Z4.all (gV prog rA 1000 101))=true:=by
 unfold Z4;simp only[yDs,a4Y,a4Z,a41,a42,a43,a44,a45,a47,a48,a5a,a5b,a5c,yCb]
noncomputable def Bt3:aE:=rA.add 101 (λ_ args σ=>match E4 Z4 args with|some p=>some (p,σ)|none=>none)
theorem aVd:aF prog Bt3:=aLJ.aFD fol Z4 a4X
end Go.Kz
