/- Steps of the proof. -/
import Derived.Test.YteegpeenjdgodaaGreatDoorP8
set_option linter.all false
set_option maxHeartbeats 40000000
set_option maxRecDepth 100000
open Go.Proofs.Tryz
noncomputable section
namespace Go.Kz
open Go Go.Proofs
def dgA:Nat->Nat->List UInt8->Jr
 |0,_,a=>a
 |_+1,0,a=>a
 |k+1,n+1,a=>dgA k ((n+1)/10) (UInt8.ofNat (48+(n+1)%10)::a)
def dg(n:Nat):PD:=.str (dgA 200 n [])
def TD(a:Nat):Jq×PD:=([dg a,.int .i64 24],.aH [dg (a^24),.int .i64 0])
def muR(a b:Nat):Jq×PD:=([dg a,dg b],dg (a*b))
def gF(d k n:Nat):List (List PD×PD):=(List.range n).map λi=>if k+i=0 then muR (d^24) 2 else muR (d^24*2*4^(k+i-1)) 4
def ftR(a b:Nat):PD:=.agg [.int .i64 a,.int .i64 b]
def six:List (Nat×Nat):=[(8,1),(4,1),(16,1),(2,1),(8,3),(8,5),(4,3),(1,1),(32,1),(16,3),(16,5),(32,3),(8,7),(2,3),(1,2),(64,1)]
def xD(a b:Nat)(l:List Int):List (List PD×PD):=List.zipWith (λo n=>([ftR a b,ftR o.1 o.2],.aH [.int .i64 n,.int .i64 0])) six l
def aGK:List (List PD×PD):=[2,4,6,8,10,12].map TD
theorem aR7:(aGK.all (iT prog oN 1000 133))=true:=Cl
def aGL:List (List PD×PD):=[14,16,20,24,28,32].map TD
theorem aR8:(aGL.all (iT prog oN 1000 133))=true:=Cl
def aGM:List (List PD×PD):=[40,48,56,64,80,96].map TD
theorem aR9:(aGM.all (iT prog oN 1000 133))=true:=Cl
def aGN:List (List PD×PD):=[112,128,160,192,256,320].map TD
theorem aSa:(aGN.all (iT prog oN 1000 133))=true:=Cl
def aGP:List (List PD×PD):=gF 8 0 1++gF 16 0 1++gF 24 0 6++gF 40 0 4
theorem aSd:(aGP.all (iT prog oN 1000 135))=true:=Cl
def aGQ:List (List PD×PD):=gF 40 4 5++gF 32 0 1++gF 56 0 3++gF 64 0 1++gF 4 0 1++gF 12 0 1
theorem aSe:(aGQ.all (iT prog oN 1000 135))=true:=Cl
def aGR:List (List PD×PD):=gF 12 1 5++gF 20 0 7
theorem aSf:(aGR.all (iT prog oN 1000 135))=true:=Cl
def aGS:List (List PD×PD):=gF 20 7 2++gF 28 0 3++gF 48 0 6++gF 80 0 1
theorem aSg:(aGS.all (iT prog oN 1000 135))=true:=Cl
def aGT:List (List PD×PD):=gF 80 1 8++gF 112 0 3++gF 16 1 1
theorem aSh:(aGT.all (iT prog oN 1000 135))=true:=Cl
def aGU:List (List PD×PD):=gF 16 2 6++gF 8 1 6
theorem aSi:(aGU.all (iT prog oN 1000 135))=true:=Cl
def aGV:List (List PD×PD):=gF 8 7 1++gF 32 1 7++gF 64 1 4
theorem aSj:(aGV.all (iT prog oN 1000 135))=true:=Cl
def aGW:List (List PD×PD):=gF 64 5 3++gF 96 0 1++gF 56 3 7++gF 128 0 1
theorem aSk:(aGW.all (iT prog oN 1000 135))=true:=Cl
def aGX:List (List PD×PD):=gF 128 1 7++gF 2 0 1++gF 6 0 4
theorem aSl:(aGX.all (iT prog oN 1000 135))=true:=Cl
def aGY:List (List PD×PD):=gF 6 4 2++gF 10 0 9++gF 14 0 1
theorem aSm:(aGY.all (iT prog oN 1000 135))=true:=Cl
def aGZ:List (List PD×PD):=gF 14 1 2++gF 24 6 4++gF 48 6 4++gF 96 1 2
theorem aSn:(aGZ.all (iT prog oN 1000 135))=true:=Cl
def aG0:List (List PD×PD):=gF 96 3 7++gF 256 0 5
theorem aSo:(aG0.all (iT prog oN 1000 135))=true:=Cl
def TC:List (List PD×PD):=aGK++(aGL++(aGM++(aGN)))
theorem aR6:(TC.all (iT prog oN 1000 133))=true:=by
 unfold TC;simp only[yDH,aR7,aR8,aR9,aSa,yCr]
def Bt1:aE:=oN.add 133 (λ_ args σ=>match sL TC args with|some p=>some (p,σ)|none=>none)
theorem aSb:aF prog Bt1:=aGO.QE bK TC aR6
def N3:List (List PD×PD):=aGP++(aGQ++(aGR++(aGS++(aGT++(aGU++(aGV++(aGW++(aGX++(aGY++(aGZ++(aG0)))))))))))
theorem aSc:(N3.all (iT prog oN 1000 135))=true:=by
 unfold N3;simp only[yDH,aSd,aSe,aSf,aSg,aSh,aSi,aSj,aSk,aSl,aSm,aSn,aSo,yCr]
def aSp:aE:=oN.add 135 (λ_ args σ=>match sL N3 args with|some p=>some (p,σ)|none=>none)
theorem aSq:aF prog aSp:=aGO.QE bK N3 aSc
def rW:aE:=Bt1.add 135 (λ_ args σ=>match sL N3 args with|some p=>some (p,σ)|none=>none)
theorem aGv:aF prog rW:=aF.pick aSq aSb (yAJ rfl)
end Go.Kz
end
