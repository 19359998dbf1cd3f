/- Steps of the proof. -/
import Derived.Test.YtnogdlnjafblaaaGreatDoorI9
set_option linter.all false
set_option maxHeartbeats 40000000
set_option maxRecDepth 100000
open Go.Proofs.Tryz
namespace Go.Kz
open Go Go.Proofs
def aQS:List (List PD×PD):=GU 8 1 [0,-12,12,-24,-19,-28,-31,-36]
theorem a4Y:(aQS.all (gV prog rA 1000 101))=true:=yp
def aQT:List (List PD×PD):=(GU 8 1 [0,0,0,0,0,0,0,0,24,-7,-16,5,-34,-43,-48,36]).drop 8
theorem a4Z:(aQT.all (gV prog rA 1000 101))=true:=yp
def aQU:List (List PD×PD):=GU 4 1 [12,0,24,-12,-7,-16,-19,-24]
theorem a41:(aQU.all (gV prog rA 1000 101))=true:=yp
def aQV:List (List PD×PD):=(GU 4 1 [0,0,0,0,0,0,0,0,36,5,-4,17,-22,-31,-36,48]).drop 8
theorem a42:(aQV.all (gV prog rA 1000 101))=true:=yp
def aQW:List (List PD×PD):=GU 16 1 [-12,-24,0,-36,-31,-40,-43,-48]
theorem a43:(aQW.all (gV prog rA 1000 101))=true:=yp
def aQX:List (List PD×PD):=(GU 16 1 [0,0,0,0,0,0,0,0,12,-19,-28,-7,-46,-55,-60,24]).drop 8
theorem a44:(aQX.all (gV prog rA 1000 101))=true:=yp
end Go.Kz
