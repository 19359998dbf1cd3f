/- Steps of the proof. -/
import Derived.Test.YteegpeenjdgodaaGreatDoorT1
import Derived.Test.YteegpeenjdgodaaGreatDoorS3
import Derived.Test.YteegpeenjdgodaaGreatDoorS9
import Derived.Test.YteegpeenjdgodaaGreatDoorS5c
set_option linter.all false
set_option maxHeartbeats 40000000
set_option maxRecDepth 100000
open Go.Proofs.Tryz
namespace Go.Kz
open Go Go.Proofs
section
variable{E E0:aE}(hU:aH E)
include hU
end
section
variable{E E0:aE}(hU:aH E)
include hU
end
section
variable{E E0:aE}(hU:aH E)
include hU
end
section
variable{E E0:aE}(hU:aH E)
include hU
end
section
variable{E E0:aE}(hU:aH E)
include hU
end
section
variable{E E0:aE}(hU:aH E)
include hU
end
section
variable{E E0:aE}(hU:aH E)
include hU
end
structure bJ where
 kind:Int
 div:Int
 idx:Int
 name:Ez
 aG:bB
 frame:bD
 stop:bU
 aJ:bR
 deriving DecidableEq
def bE.edit:bE bJ:=((bE.one i64).pair ((bE.one i64).pair ((bE.one i64).pair ((bE.one .text).pair (bE.aG.pair (bE.div.pair (bE.stop.pair bE.aJ))))))).lM (λx=>(x.kind,x.div,x.idx,x.name,x.aG,x.frame,x.stop,x.aJ)) (λx y h=>yo)
def Em.edit:Em bJ:=.agg .edit
theorem eI{x:bJ}:Em.edit.aA x=.agg [.int .i64 x.kind,.int .i64 x.div,.int .i64 x.idx,.str x.name,.str x.aG.name,.str x.aG.jQ,.int .i64 x.aG.num,.int .i64 x.aG.den,.int .i64 x.aG.first,eS.aA x.aG.nM,.str x.frame.name,.bool x.frame.eG,.int .i64 x.frame.low,.int .i64 x.frame.high,l8.aA x.frame.stops,.str x.stop.name,.int .i64 x.stop.num,.int .i64 x.stop.den,mS.aA x.stop.aO,.str x.aJ.name,.int .i64 x.aJ.dS,.int .i64 x.aJ.dst,.int .i64 x.aJ.shift,.bool x.aJ.qD]:=rfl
def jN:bB:=⟨[],[],0,0,0,[]⟩
def cP:bD:=⟨[],false,0,0,[]⟩
def iX:bU:=⟨[],0,0,[]⟩
def kB:bR:=⟨[],0,0,0,false⟩
def vH:aM:=⟨[],[],[],[]⟩
def rR(x:bJ):bJ:=
 if x.kind=13 then { x with name:=[] }
 else
  let th:=(x.kind-1)/3
  let y:={ x with idx:=0,div:=if th=2 then 0 else x.div }
  if (x.kind-1)%3=1 then y
  else if th=0 then { y with aG:=jN }else if th=1 then { y with frame:=cP }else if th=2 then { y with stop:=iX }else { y with aJ:=kB }
def qS(x:bJ):Bool:=decide (x.div=0/\x.idx=0/\x.name=[]/\x.aG=jN/\x.frame=cP/\x.stop=iX/\x.aJ=kB)
section
set_option pp.maxSteps 200000
set_option pp.deepTerms true
theorem xO{α:Type}(em:Em α)(k:Nat)(xs:List α)(tok:Tok):(PD.slice (sz k xs) (xs.map em.aA) tok).strip=.slice (sz k xs) (xs.map em.aA) .any:=by
 rw[PD.rH];have h:(xs.map em.aA).map PD.strip=xs.map em.aA:=by
  rw[yBA];exact yAG λx _=>em.str x
 rw[h];cases xs<;>simp[sz]
variable{E:aE}(hU:aH E)
include hU
end
section
variable{E E0:aE}(hU:aH E)
include hU
end
section
def gQ(x:bJ):Int:=if x.kind<1\/13<x.kind then 12 else if qS (rR x)then 0 else 7
def fO(x:bJ):Prop:=kG x.aG/\mB x.frame/\mA x.stop
def dA{α:Type}(l:List α)(way:Int)(i:Nat)(x:α):List α:=if way=0 then l.take i++x::l.drop i else if way=1 then l.take i++l.drop (i+1)else l.set i x
def aCJ(o:aM):Prop:=o.aK.length<=200/\o.aD.length<=200/\o.aR.length<=200/\∀d∈o.aD,d.stops.length<=200
def fY:PD:=.agg [.str [],.slice 0 [] .full,.slice 0 [] .full,.slice 0 [] .full]
def cF(R:TypeId->Prop)(σ σ':List aB):Prop:=∀(id:Nat) (t:TypeId) (n v:Nat) (cs:List PD),R t->σ[id]?=some (.row t n v cs)->σ'[id]?=some (.row t n v cs)
theorem cF.trans{R:TypeId->Prop}{σ τ ρ:Ex}(h:cF R σ τ)(k:cF R τ ρ):cF R σ ρ:=λid t n v cs hr hy=>k id t n v cs hr (h id t n v cs hr hy)
theorem cF.set{R:TypeId->Prop}{σ:Ex}{i:Nat}{b:PD}(hi:σ[i]?=some (.box b))(x:aB):cF R σ (σ.set i x):=λid t n v cs _ hy=>by
 by_cases e:id=i
 .rw[e,hi]at hy;cases hy
 .rw[yAd (yBb e)];exact hy
abbrev sV:TypeId->Prop:=λt=>t=48
abbrev sW:TypeId->Prop:=λt=>t=53\/t=56\/t=92\/t=89
abbrev sX:TypeId->Prop:=λt=>t=58
structure fP {α:Type} (em:Em α) (sz:Nat) (R:TypeId->Prop) (σ:List aB) (P:PD) (l:List α):Prop where
 plain:P.plain=true
 cells:P.cells=[P]
 aZ:∀σ',cF R σ σ'->∀K,(Go.Kz.aZ σ' (K+8) P).strip=(em.list sz).aA l/\(Go.Kz.aZ σ' (K+8) P).bI=true
theorem fP.bF{α:Type}{em:Em α}{sz:Nat}{R:TypeId->Prop}{σ σ':Ex}{P:PD}{l:List α}(h:fP em sz R σ P l)(k:cF R σ σ'):fP em sz R σ' P l:=⟨h.plain,h.cells,λτ dX K=>h.aZ τ (k.trans dX) K⟩
def oZ:PD:=.agg [.str [],.slice 0 [] .full,.slice 0 [] .full,.slice 0 [] .full]
variable{E E1 E2 E3 E4:aE}(hU:aH E)
include hU
end
section
variable{E E1 E2 E3 E4 E5:aE}(hU:aH E)
include hU
end
section
variable{E E1 E2 E3 E4:aE}(hU:aH E)
include hU
end
end Go.Kz
