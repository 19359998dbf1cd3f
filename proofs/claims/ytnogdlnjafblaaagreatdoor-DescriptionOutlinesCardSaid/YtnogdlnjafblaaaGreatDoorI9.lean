/- Steps of the proof. -/
import Derived.Test.YtnogdlnjafblaaaGreatDoorI8
set_option linter.all false
set_option maxHeartbeats 40000000
set_option maxRecDepth 100000
open Go.Proofs.Tryz
noncomputable section
namespace Go.Kz
open Go Go.Proofs
def aRc:List (List PD×PD):=fC 20 7 2++fC 28 0 3++fC 48 0 6++fC 80 0 1
theorem a5n:(aRc.all (gV prog nJ 1000 160))=true:=yp
def aRd:List (List PD×PD):=fC 80 1 8++fC 112 0 3++fC 16 1 1
theorem a5o:(aRd.all (gV prog nJ 1000 160))=true:=yp
def aRe:List (List PD×PD):=fC 16 2 6++fC 8 1 6
theorem a5p:(aRe.all (gV prog nJ 1000 160))=true:=yp
def aRf:List (List PD×PD):=fC 8 7 1++fC 32 1 7++fC 64 1 4
theorem a5q:(aRf.all (gV prog nJ 1000 160))=true:=yp
def aRg:List (List PD×PD):=fC 64 5 3++fC 96 0 1++fC 56 3 7++fC 128 0 1
theorem a5r:(aRg.all (gV prog nJ 1000 160))=true:=yp
def aRh:List (List PD×PD):=fC 128 1 7++fC 2 0 1++fC 6 0 4
theorem a5s:(aRh.all (gV prog nJ 1000 160))=true:=yp
def aRi:List (List PD×PD):=fC 6 4 2++fC 10 0 9++fC 14 0 1
theorem a5t:(aRi.all (gV prog nJ 1000 160))=true:=yp
def aRj:List (List PD×PD):=fC 14 1 2++fC 24 6 4++fC 48 6 4++fC 96 1 2
theorem a5u:(aRj.all (gV prog nJ 1000 160))=true:=yp
def aRk:List (List PD×PD):=fC 96 3 7++fC 256 0 5
theorem a5v:(aRk.all (gV prog nJ 1000 160))=true:=yp
def aEk:List (List PD×PD):=aQ4++(aQ5++(aQ6++(aQ7)))
theorem a5d:(aEk.all (gV prog nJ 1000 158))=true:=by
 unfold aEk;simp only[yDs,a5e,a5f,a5g,a5h,yCb]
def Bt1:aE:=nJ.add 158 (λ_ args σ=>match E4 aEk args with|some p=>some (p,σ)|none=>none)
theorem a5i:aF prog Bt1:=aQ8.aFD fol aEk a5d
def aBA:List (List PD×PD):=aQ9++(aRa++(aRb++(aRc++(aRd++(aRe++(aRf++(aRg++(aRh++(aRi++(aRj++(aRk)))))))))))
theorem a5j:(aBA.all (gV prog nJ 1000 160))=true:=by
 unfold aBA;simp only[yDs,a5k,a5l,a5m,a5n,a5o,a5p,a5q,a5r,a5s,a5t,a5u,a5v,yCb]
def a5w:aE:=nJ.add 160 (λ_ args σ=>match E4 aBA args with|some p=>some (p,σ)|none=>none)
theorem a5x:aF prog a5w:=aQ8.aFD fol aBA a5j
def rA:aE:=Bt1.add 160 (λ_ args σ=>match E4 aBA args with|some p=>some (p,σ)|none=>none)
theorem aLJ:aF prog rA:=aF.pick a5x a5i rfl
end Go.Kz
end
