/- Steps of the proof. -/
import Derived.Test.YteegpeenjdgodaaGreatDoorS8
set_option linter.all false
set_option maxHeartbeats 40000000
set_option maxRecDepth 100000
open Go.Proofs.Tryz
noncomputable section
namespace Go.Kz
open Go Go.Proofs
def dgA:Nat->Nat->List UInt8->Jl
 |0,_,a=>a
 |_+1,0,a=>a
 |k+1,n+1,a=>dgA k ((n+1)/10) (UInt8.ofNat (48+(n+1)%10)::a)
def dg(n:Nat):PD:=.str (dgA 200 n [])
def SF(a:Nat):Jk×PD:=([dg a,.int .i64 24],.aH [dg (a^24),.int .i64 0])
def muR(a b:Nat):Jk×PD:=([dg a,dg b],dg (a*b))
def gH(d k n:Nat):List (List PD×PD):=(List.range n).map λi=>if k+i=0 then muR (d^24) 2 else muR (d^24*2*4^(k+i-1)) 4
def ftR(a b:Nat):PD:=.agg [.int .i64 a,.int .i64 b]
def six:List (Nat×Nat):=[(8,1),(4,1),(16,1),(2,1),(8,3),(8,5),(4,3),(1,1),(32,1),(16,3),(16,5),(32,3),(8,7),(2,3),(1,2),(64,1)]
def xI(a b:Nat)(l:List Int):List (List PD×PD):=List.zipWith (λo n=>([ftR a b,ftR o.1 o.2],.aH [.int .i64 n,.int .i64 0])) six l
def aF8:List (List PD×PD):=[2,4,6,8,10,12].map SF
theorem aRB:(aF8.all (iV prog oM 1000 133))=true:=Cf
def aF9:List (List PD×PD):=[14,16,20,24,28,32].map SF
theorem aRC:(aF9.all (iV prog oM 1000 133))=true:=Cf
def aGa:List (List PD×PD):=[40,48,56,64,80,96].map SF
theorem aRD:(aGa.all (iV prog oM 1000 133))=true:=Cf
def aGb:List (List PD×PD):=[112,128,160,192,256,320].map SF
theorem aRE:(aGb.all (iV prog oM 1000 133))=true:=Cf
def aGd:List (List PD×PD):=gH 8 0 1++gH 16 0 1++gH 24 0 6++gH 40 0 4
theorem aRH:(aGd.all (iV prog oM 1000 135))=true:=Cf
def aGe:List (List PD×PD):=gH 40 4 5++gH 32 0 1++gH 56 0 3++gH 64 0 1++gH 4 0 1++gH 12 0 1
theorem aRI:(aGe.all (iV prog oM 1000 135))=true:=Cf
def aGf:List (List PD×PD):=gH 12 1 5++gH 20 0 7
theorem aRJ:(aGf.all (iV prog oM 1000 135))=true:=Cf
def aGg:List (List PD×PD):=gH 20 7 2++gH 28 0 3++gH 48 0 6++gH 80 0 1
theorem aRK:(aGg.all (iV prog oM 1000 135))=true:=Cf
def aGh:List (List PD×PD):=gH 80 1 8++gH 112 0 3++gH 16 1 1
theorem aRL:(aGh.all (iV prog oM 1000 135))=true:=Cf
def aGi:List (List PD×PD):=gH 16 2 6++gH 8 1 6
theorem aRM:(aGi.all (iV prog oM 1000 135))=true:=Cf
def aGj:List (List PD×PD):=gH 8 7 1++gH 32 1 7++gH 64 1 4
theorem aRN:(aGj.all (iV prog oM 1000 135))=true:=Cf
def aGk:List (List PD×PD):=gH 64 5 3++gH 96 0 1++gH 56 3 7++gH 128 0 1
theorem aRO:(aGk.all (iV prog oM 1000 135))=true:=Cf
def aGl:List (List PD×PD):=gH 128 1 7++gH 2 0 1++gH 6 0 4
theorem aRP:(aGl.all (iV prog oM 1000 135))=true:=Cf
def aGm:List (List PD×PD):=gH 6 4 2++gH 10 0 9++gH 14 0 1
theorem aRQ:(aGm.all (iV prog oM 1000 135))=true:=Cf
def aGn:List (List PD×PD):=gH 14 1 2++gH 24 6 4++gH 48 6 4++gH 96 1 2
theorem aRR:(aGn.all (iV prog oM 1000 135))=true:=Cf
def aGo:List (List PD×PD):=gH 96 3 7++gH 256 0 5
theorem aRS:(aGo.all (iV prog oM 1000 135))=true:=Cf
def SE:List (List PD×PD):=aF8++(aF9++(aGa++(aGb)))
theorem aRA:(SE.all (iV prog oM 1000 133))=true:=by
 unfold SE;simp only[yDF,aRB,aRC,aRD,aRE,yCh]
def Bt1:aE:=oM.add 133 (λ_ args σ=>match sJ SE args with|some p=>some (p,σ)|none=>none)
theorem aRF:aF prog Bt1:=aGc.PM bS SE aRA
def NN:List (List PD×PD):=aGd++(aGe++(aGf++(aGg++(aGh++(aGi++(aGj++(aGk++(aGl++(aGm++(aGn++(aGo)))))))))))
theorem aRG:(NN.all (iV prog oM 1000 135))=true:=by
 unfold NN;simp only[yDF,aRH,aRI,aRJ,aRK,aRL,aRM,aRN,aRO,aRP,aRQ,aRR,aRS,yCh]
def aRT:aE:=oM.add 135 (λ_ args σ=>match sJ NN args with|some p=>some (p,σ)|none=>none)
theorem aRU:aF prog aRT:=aGc.PM bS NN aRG
def rV:aE:=Bt1.add 135 (λ_ args σ=>match sJ NN args with|some p=>some (p,σ)|none=>none)
theorem aFT:aF prog rV:=aF.pick aRU aRF (yAJ rfl)
end Go.Kz
end
