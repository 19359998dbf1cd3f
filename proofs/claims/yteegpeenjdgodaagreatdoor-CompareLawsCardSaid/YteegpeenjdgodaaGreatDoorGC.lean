/- Steps of the proof. -/
import Derived.Test.YteegpeenjdgodaaGreatDoorG8
set_option linter.all false
set_option maxHeartbeats 40000000
set_option maxRecDepth 100000
open Go.Proofs.Tryz
noncomputable section
namespace Go.Kz
open Go Go.Proofs
def dgA:Nat->Nat->List UInt8->Gd
 |0,_,a=>a
 |_+1,0,a=>a
 |k+1,n+1,a=>dgA k ((n+1)/10) (UInt8.ofNat (48+(n+1)%10)::a)
def dg(n:Nat):PD:=.str (dgA 200 n [])
def QT(a:Nat):Gc×PD:=([dg a,.int .i64 24],.aI [dg (a^24),.int .i64 0])
def muR(a b:Nat):Gc×PD:=([dg a,dg b],dg (a*b))
def fL(d k n:Nat):List (List PD×PD):=(List.range n).map λi=>if k+i=0 then muR (d^24) 2 else muR (d^24*2*4^(k+i-1)) 4
def ftR(a b:Nat):PD:=.agg [.int .i64 a,.int .i64 b]
def six:List (Nat×Nat):=[(8,1),(4,1),(16,1),(2,1),(8,3),(8,5),(4,3),(1,1),(32,1),(16,3),(16,5),(32,3),(8,7),(2,3),(1,2),(64,1)]
def vL(a b:Nat)(l:List Int):List (List PD×PD):=List.zipWith (λo n=>([ftR a b,ftR o.1 o.2],.aI [.int .i64 n,.int .i64 0])) six l
def aFS:List (List PD×PD):=[2,4,6,8,10,12].map QT
theorem aRs:(aFS.all (gX prog nJ 1000 133))=true:=Aj
def aFT:List (List PD×PD):=[14,16,20,24,28,32].map QT
theorem aRt:(aFT.all (gX prog nJ 1000 133))=true:=Aj
def aFU:List (List PD×PD):=[40,48,56,64,80,96].map QT
theorem aRu:(aFU.all (gX prog nJ 1000 133))=true:=Aj
def aFV:List (List PD×PD):=[112,128,160,192,256,320].map QT
theorem aRv:(aFV.all (gX prog nJ 1000 133))=true:=Aj
def aFX:List (List PD×PD):=fL 8 0 1++fL 16 0 1++fL 24 0 6++fL 40 0 4
theorem aRy:(aFX.all (gX prog nJ 1000 135))=true:=Aj
def aFY:List (List PD×PD):=fL 40 4 5++fL 32 0 1++fL 56 0 3++fL 64 0 1++fL 4 0 1++fL 12 0 1
theorem aRz:(aFY.all (gX prog nJ 1000 135))=true:=Aj
def aFZ:List (List PD×PD):=fL 12 1 5++fL 20 0 7
theorem aRA:(aFZ.all (gX prog nJ 1000 135))=true:=Aj
def aF0:List (List PD×PD):=fL 20 7 2++fL 28 0 3++fL 48 0 6++fL 80 0 1
theorem aRB:(aF0.all (gX prog nJ 1000 135))=true:=Aj
def aF1:List (List PD×PD):=fL 80 1 8++fL 112 0 3++fL 16 1 1
theorem aRC:(aF1.all (gX prog nJ 1000 135))=true:=Aj
def aF2:List (List PD×PD):=fL 16 2 6++fL 8 1 6
theorem aRD:(aF2.all (gX prog nJ 1000 135))=true:=Aj
def aF3:List (List PD×PD):=fL 8 7 1++fL 32 1 7++fL 64 1 4
theorem aRE:(aF3.all (gX prog nJ 1000 135))=true:=Aj
def aF4:List (List PD×PD):=fL 64 5 3++fL 96 0 1++fL 56 3 7++fL 128 0 1
theorem aRF:(aF4.all (gX prog nJ 1000 135))=true:=Aj
def aF5:List (List PD×PD):=fL 128 1 7++fL 2 0 1++fL 6 0 4
theorem aRG:(aF5.all (gX prog nJ 1000 135))=true:=Aj
def aF6:List (List PD×PD):=fL 6 4 2++fL 10 0 9++fL 14 0 1
theorem aRH:(aF6.all (gX prog nJ 1000 135))=true:=Aj
def aF7:List (List PD×PD):=fL 14 1 2++fL 24 6 4++fL 48 6 4++fL 96 1 2
theorem aRI:(aF7.all (gX prog nJ 1000 135))=true:=Aj
def aF8:List (List PD×PD):=fL 96 3 7++fL 256 0 5
theorem aRJ:(aF8.all (gX prog nJ 1000 135))=true:=Aj
def QS:List (List PD×PD):=aFS++(aFT++(aFU++(aFV)))
theorem aRr:(QS.all (gX prog nJ 1000 133))=true:=by
 unfold QS;simp only[yDH,aRs,aRt,aRu,aRv,yCn]
def Bt1:aE:=nJ.add 133 (λ_ args σ=>match rE QS args with|some p=>some (p,σ)|none=>none)
theorem aRw:aF prog Bt1:=aFW.N6 bI QS aRr
def L1:List (List PD×PD):=aFX++(aFY++(aFZ++(aF0++(aF1++(aF2++(aF3++(aF4++(aF5++(aF6++(aF7++(aF8)))))))))))
theorem aRx:(L1.all (gX prog nJ 1000 135))=true:=by
 unfold L1;simp only[yDH,aRy,aRz,aRA,aRB,aRC,aRD,aRE,aRF,aRG,aRH,aRI,aRJ,yCn]
def aRK:aE:=nJ.add 135 (λ_ args σ=>match rE L1 args with|some p=>some (p,σ)|none=>none)
theorem aRL:aF prog aRK:=aFW.N6 bI L1 aRx
def qR:aE:=Bt1.add 135 (λ_ args σ=>match rE L1 args with|some p=>some (p,σ)|none=>none)
theorem aFB:aF prog qR:=aF.pick aRL aRw (yAJ rfl)
end Go.Kz
end
