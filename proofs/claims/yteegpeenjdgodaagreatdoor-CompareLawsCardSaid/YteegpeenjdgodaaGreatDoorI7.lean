/- Steps of the proof. -/
import Derived.Test.YteegpeenjdgodaaGreatDoorI1
import Derived.Test.YteegpeenjdgodaaGreatDoorH1b
set_option linter.all false
set_option maxHeartbeats 40000000
set_option maxRecDepth 100000
open Go.Proofs.Tryz
namespace Go.Kz
open Go Go.Proofs
section
def lmv(fm b r:Int):Int:=if fm<=r then r+b else r
def aSi(fm b:Int)(w:dT):dT:=⟨lmv fm b w.aG,w.shift⟩
def isR(fm:Int)(w:dT):Bool:=decide (w.aG=fm)
structure QZ (bJ σ1:List aB) (lo:Nat) (o:aP) (tW:Nat->Nat->Nat->Nat) (fm b:Int) (P:Nat->Nat->Nat->Prop) (hs:Bool):Prop where
 len:bJ.length<=σ1.length
 low:∀id,id<lo->σ1[id]?=bJ[id]?
 aQ:∀(id:Nat) (x:aB),(∀cs,x≠.row 89 2 0 cs)->bJ[id]?=some x->σ1[id]?=some x
 done:∀d s g (h:d<o.aD.length) (k:s<o.aD[d].stops.length) (l:g<o.aD[d].stops[s].aU.length),P d s g->0<o.aD[d].stops[s].aU[g].aX.length->σ1[tW d s g]?=some (.row 89 2 0 (lT (o.aD[d].stops[s].aU[g].aX.map (aSi fm b))))
 rest:∀d s g (h:d<o.aD.length) (k:s<o.aD[d].stops.length) (l:g<o.aD[d].stops[s].aU.length),¬P d s g->0<o.aD[d].stops[s].aU[g].aX.length->σ1[tW d s g]?=some (.row 89 2 0 (lT o.aD[d].stops[s].aU[g].aX))
 has:hs=true↔∃d s g,∃(h:d<o.aD.length) (k:s<o.aD[d].stops.length) (l:g<o.aD[d].stops[s].aU.length),P d s g/\o.aD[d].stops[s].aU[g].aX.any (isR fm)=true
variable{E E0:aE}(hU:aH E)
include hU
end
end Go.Kz
