/- Steps of the proof. -/
import Derived.Test.YteegpeenjdgodaaGreatDoorS8
set_option linter.all false
set_option maxHeartbeats 40000000
set_option maxRecDepth 100000
open Go.Proofs.Tryz
noncomputable section
namespace Go.Kz
open Go Go.Proofs
def dgA:Nat->Nat->List UInt8->Ez
 |0,_,a=>a
 |_+1,0,a=>a
 |k+1,n+1,a=>dgA k ((n+1)/10) (UInt8.ofNat (48+(n+1)%10)::a)
def dg(n:Nat):PD:=.str (dgA 200 n [])
def O4(a:Nat):Ey×PD:=([dg a,.int .i64 24],.aP [dg (a^24),.int .i64 0])
def muR(a b:Nat):Ey×PD:=([dg a,dg b],dg (a*b))
def eQ(d k n:Nat):List (List PD×PD):=(List.range n).map λi=>if k+i=0 then muR (d^24) 2 else muR (d^24*2*4^(k+i-1)) 4
def ftR(a b:Nat):PD:=.agg [.int .i64 a,.int .i64 b]
def six:List (Nat×Nat):=[(8,1),(4,1),(16,1),(2,1),(8,3),(8,5),(4,3),(1,1),(32,1),(16,3),(16,5),(32,3),(8,7),(2,3),(1,2),(64,1)]
def uS(a b:Nat)(l:List Int):List (List PD×PD):=List.zipWith (λo n=>([ftR a b,ftR o.1 o.2],.aP [.int .i64 n,.int .i64 0])) six l
def aEh:List (List PD×PD):=[2,4,6,8,10,12].map O4
theorem aO3:(aEh.all (gD prog mM 1000 133))=true:=yf
def aEi:List (List PD×PD):=[14,16,20,24,28,32].map O4
theorem aO4:(aEi.all (gD prog mM 1000 133))=true:=yf
def aEj:List (List PD×PD):=[40,48,56,64,80,96].map O4
theorem aO5:(aEj.all (gD prog mM 1000 133))=true:=yf
def aEk:List (List PD×PD):=[112,128,160,192,256,320].map O4
theorem aO6:(aEk.all (gD prog mM 1000 133))=true:=yf
def aEm:List (List PD×PD):=eQ 8 0 1++eQ 16 0 1++eQ 24 0 6++eQ 40 0 4
theorem aO9:(aEm.all (gD prog mM 1000 135))=true:=yf
def aEn:List (List PD×PD):=eQ 40 4 5++eQ 32 0 1++eQ 56 0 3++eQ 64 0 1++eQ 4 0 1++eQ 12 0 1
theorem aPa:(aEn.all (gD prog mM 1000 135))=true:=yf
def aEo:List (List PD×PD):=eQ 12 1 5++eQ 20 0 7
theorem aPb:(aEo.all (gD prog mM 1000 135))=true:=yf
def aEp:List (List PD×PD):=eQ 20 7 2++eQ 28 0 3++eQ 48 0 6++eQ 80 0 1
theorem aPc:(aEp.all (gD prog mM 1000 135))=true:=yf
def aEq:List (List PD×PD):=eQ 80 1 8++eQ 112 0 3++eQ 16 1 1
theorem aPd:(aEq.all (gD prog mM 1000 135))=true:=yf
def aEr:List (List PD×PD):=eQ 16 2 6++eQ 8 1 6
theorem aPe:(aEr.all (gD prog mM 1000 135))=true:=yf
def aEs:List (List PD×PD):=eQ 8 7 1++eQ 32 1 7++eQ 64 1 4
theorem aPf:(aEs.all (gD prog mM 1000 135))=true:=yf
def aEt:List (List PD×PD):=eQ 64 5 3++eQ 96 0 1++eQ 56 3 7++eQ 128 0 1
theorem aPg:(aEt.all (gD prog mM 1000 135))=true:=yf
def aEu:List (List PD×PD):=eQ 128 1 7++eQ 2 0 1++eQ 6 0 4
theorem aPh:(aEu.all (gD prog mM 1000 135))=true:=yf
def aEv:List (List PD×PD):=eQ 6 4 2++eQ 10 0 9++eQ 14 0 1
theorem aPi:(aEv.all (gD prog mM 1000 135))=true:=yf
def aEw:List (List PD×PD):=eQ 14 1 2++eQ 24 6 4++eQ 48 6 4++eQ 96 1 2
theorem aPj:(aEw.all (gD prog mM 1000 135))=true:=yf
def aEx:List (List PD×PD):=eQ 96 3 7++eQ 256 0 5
theorem aPk:(aEx.all (gD prog mM 1000 135))=true:=yf
def O3:List (List PD×PD):=aEh++(aEi++(aEj++(aEk)))
theorem aO2:(O3.all (gD prog mM 1000 133))=true:=by
 unfold O3;simp only[yDG,aO3,aO4,aO5,aO6,yCo]
def Bt1:aE:=mM.add 133 (λ_ args σ=>match qR O3 args with|some p=>some (p,σ)|none=>none)
theorem aO7:aF prog Bt1:=aEl.MY bK O3 aO2
def KP:List (List PD×PD):=aEm++(aEn++(aEo++(aEp++(aEq++(aEr++(aEs++(aEt++(aEu++(aEv++(aEw++(aEx)))))))))))
theorem aO8:(KP.all (gD prog mM 1000 135))=true:=by
 unfold KP;simp only[yDG,aO9,aPa,aPb,aPc,aPd,aPe,aPf,aPg,aPh,aPi,aPj,aPk,yCo]
def aPl:aE:=mM.add 135 (λ_ args σ=>match qR KP args with|some p=>some (p,σ)|none=>none)
theorem aPm:aF prog aPl:=aEl.MY bK KP aO8
def pX:aE:=Bt1.add 135 (λ_ args σ=>match qR KP args with|some p=>some (p,σ)|none=>none)
theorem aD1:aF prog pX:=aF.pick aPm aO7 (yAJ rfl)
end Go.Kz
end
