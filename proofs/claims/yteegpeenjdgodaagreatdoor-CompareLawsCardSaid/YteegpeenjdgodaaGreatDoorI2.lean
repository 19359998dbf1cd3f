/- Steps of the proof. -/
import Derived.Test.YteegpeenjdgodaaGreatDoorI7
import Derived.Test.YteegpeenjdgodaaGreatDoorH1b
import Derived.Test.YteegpeenjdgodaaGreatDoorH5b
set_option linter.all false
set_option maxHeartbeats 40000000
set_option maxRecDepth 100000
open Go.Proofs.Tryz
noncomputable section
namespace Go.Kz
open Go Go.Proofs
section
variable{E E0:aE}(hU:aH E)
include hU
end
def aSl(σ:List aB)(x:PD)(k:Nat)(hs:List (List PD)):Prop:=∃z ys,vY σ x=some (z,ys)/\(ys.length=0\/z=k)/\ys.length=hs.length/\ys.flatMap PD.cells=hs.flatten
def ZR(σ:List aB)(h:PD)(k e:Nat)(gs:List (List PD)):Prop:=(gs=[]/\∃z tok,h=.slice z [] tok)\/(gs≠[]/\∃id v,h=.aR id v 0 gs.length k/\σ[id]?=some (.row e k v gs.flatten))
def ZS(σ:List aB)(B:Nat)(h:PD)(k e:Nat)(gs:List (List PD)):Prop:=(gs=[]/\h=.slice k [] .full)\/(gs≠[]/\∃id v,B<=id/\h=.aR id v 0 gs.length k/\σ[id]?=some (.row e k v gs.flatten))
section
variable{E E0:aE}(hU:aH E)
include hU
end
theorem o7.hq{α:Type}{em:Em α}{sz e id v L:Nat}{σ:Gb}{gs:Fz}{l:List α}(h1:sz≠1)(hr:0<l.length->σ[id]?=some (.row e sz v gs.flatten))(hg:0<l.length->∀g∈gs,g.length=sz)(hl:0<l.length->gs.length=l.length)(hL:1<=L)
  (h:∀i (hi:i<l.length) (hi2:i<gs.length),tQ em σ L gs[i] l[i]):o7 em sz σ (L+1) (Go.Kz.hq sz id v l.length) l:=λK=>by
 by_cases h0:l.length=0
 .obtain rfl:=yAf h0;obtain⟨M,rfl⟩:∃M,L=M+1:=⟨L-1,Ah⟩;exact PA sz 0 σ (K+M) .any
 .rw[aGn Ah];exact ku
theorem aSg{σ:Gb}{lo:Nat}{ds:List dT}{id:Nat}(h:CJ σ lo ds id):o7 Em.draw 2 σ 2 (Go.Kz.hq 2 id 0 ds.length) ds:=by
 refine o7.hq (L:=1) (gs:=ds.map λw=>[PD.int .i64 w.aG,.int .i64 w.shift]) Al (λhp=>(h hp).2) (λ_ g hg=>by obtain⟨w,_,rfl⟩:=yAw.1 hg;rfl) (λ_=>yAe ..) (yAk _) λi hi hi2=>?_
 rw[yBE];exact KK aEh _ DF σ
theorem aSh{σ:Gb}{lo:Nat}{s:bW}{iG:Nat}{gs:Fz}{iW:Nat->Nat}(h:sZ σ lo s iG gs iW):o7 Em.eZ 3 σ 3 (Go.Kz.hq 3 iG (s.aU.length-1) s.aU.length) s.aU:=by
 refine o7.hq (L:=2) (gs:=gs) Al (λhp=>(h.row hp).2) (λ_=>zZ h.len λi hi=>⟨_,(h.at_ i hi).1,rfl⟩) (λ_=>h.len) Ah λi hi hi2=>?_
 have h1:=h.at_ i hi;have e:=(yA.1 h1.1).2;rw[e];exact aEg (L:=1) (aSg h1.2)
theorem sZ.kept{σ σ':Gb}{lo:Nat}{s:bW}{iG:Nat}{gs:Fz}{iW:Nat->Nat}(h:sZ σ lo s iG gs iW)(k:aY qD σ σ'):sZ σ' lo s iG gs iW:=by
 obtain⟨h2,h3,h4,h5⟩:=h;exact⟨h2,λhp=>⟨(h3 hp).1,k _ _ _ _ _ (.inl rfl) (h3 hp).2⟩,λg h=>⟨(h4 g h).1,λhp=>⟨((h4 g h).2 hp).1,k _ _ _ _ _ (.inr rfl) ((h4 g h).2 hp).2⟩⟩,h5⟩
theorem sZ.z6{σ:Gb}{lo:Nat}{s:bW}{iG:Nat}{gs:Fz}{iW:Nat->Nat}(h:sZ σ lo s iG gs iW):oK Em.stop 6 qD σ [.str s.name,.int .i64 s.num,.int .i64 s.den,Go.Kz.hq 3 iG (s.aU.length-1) s.aU.length] s:=λσ' k=>(XC (L:=2) (aSh (h.kept k))).up Ah
def T9{α:Type}(em:Em α)(sz:Nat)(e:TypeId)(N:Nat)(R:TypeId->Prop)(σ:List aB)(P:PD)(l:List α):Prop:=∃gs,ZR σ P sz e gs/\(∀g∈gs,g.length=sz)/\fF (oK em N R σ) gs l
theorem T9.G8{α:Type}{em:Em α}{sz:Nat}{e:TypeId}{R R':TypeId->Prop}{σ:Gb}{P:PD}{l:List α}(h:T9 em sz e 7 R σ P l)(h1:1<sz)(hr:∀t,t=e\/R t->R' t):cO em sz R' σ P l:=by
 obtain⟨gs,H,hg,hA⟩:=h;rcases H with⟨rfl,z,tok,rfl⟩ | ⟨hne,id,v,rfl,dQ⟩
 .have:l=[]:=yAf hA.len.symm;subst this;exact⟨rfl,rfl,λσ' _ K=>PA sz z σ' (K+6) tok⟩
 .rw[hA.len];exact cO.row h1 dQ (hr _ (.inl rfl)) (λt ht=>hr t (.inr ht)) (λ_ _ _ _ _ _ h=>h) hg hA
def wA:Nat->List PD->List aB->Option (PD×List aB):=entry (bZ Em.edit (i64.sA i64) λx=>dP (DB x.kind) (some ((IntKind.i64.wrap (x.kind-1)).tdiv 3,(IntKind.i64.wrap (x.kind-1)).tmod 3)))
theorem aSf{x:bC}(h:1<=x.kind/\x.kind<=13)(fl:Nat)(σ:List aB):wA fl [Em.edit.aA x] σ=some (.aI [.int .i64 ((x.kind-1)/3),.int .i64 ((x.kind-1)%3)],σ):=by
 have e1:=Em.cM (Em.edit.str x);have hw:IntKind.i64.wrap (x.kind-1)=x.kind-1:=Am;unfold wA entry bZ;simp only[e1,eV (show DB x.kind from⟨Ah,Ah⟩),hw];rw[yCS Ah,yBY Ah];rfl
def gFm:Nat->List PD->List aB->Option (PD×List aB):=entry (bZ Em.edit Em.bool λx=>dP ((1<=x.kind/\x.kind<=13)/\fW x) (some (decide (iA x=0))))
def QY(w i n:Int):Bool:=decide (i<0\/n<i\/(w≠0/\i=n))
def gMs:Nat->List PD->List aB->Option (PD×List aB):=entry (vQ i64 i64 i64 Em.bool λw i n=>some (QY w i n))
section
variable{E E1 E3 E5 Eo:aE}
end
section
variable{E E1 E3 E5 Eo:aE}
end
section
variable{E:aE}
end
end Go.Kz
end
