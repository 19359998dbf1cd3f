/- Steps of the proof. -/
import Derived.Test.YteegpeenjdgodaaGreatDoorT5
set_option linter.all false
set_option maxHeartbeats 40000000
set_option maxRecDepth 100000
open Go.Proofs.Tryz
namespace Go.Kz
open Go Go.Proofs
section
theorem JN(ns:List (List UInt8))(nm:List UInt8):lT ns nm=true↔nm∈ns:=by simp[lT]
theorem R9{α:Type}{ns t:List α}{x:α}(h:(ns++x::t).Nodup):x∉ns:=λhx=>(yCB.1 h).2.2 x hx x (yBe ..) rfl
theorem aFK:∀(l:List bP) (ns:List (List UInt8)),ns.Nodup->(s8 ns l=0↔(∀r∈l,pB r=0)/\(ns++l.map bP.name).Nodup)
 | [],ns,h=>by simp[s8,h]
 |r::t,ns,h=>by
  unfold s8
  by_cases h1:pB r=0
  .rw[yAI Ei]
   by_cases h2:lT ns r.name=true
   .rw[yAJ h2];exact⟨λe=>absurd e Ch,λe=>absurd ((JN _ _).1 h2) (R9 (t:=t.map bP.name) e.2)⟩
   .rw[yAI h2];have hs:r.name∉ns:=λe=>h2 ((JN _ _).2 e)
    have hn:(ns++[r.name]).Nodup:=by
     rw[yCB];exact ic
    rw[aFK t _ hn];simp[h1]
  .exact xg
theorem aFL(rs:List bP)(lo hg:Int):∀(l:List cO) (ns:List (List UInt8)),ns.Nodup->(AF rs lo hg ns l=0↔(∀r∈l,s5 rs lo hg r=0)/\(ns++l.map cO.name).Nodup)
 | [],ns,h=>by simp[AF,h]
 |r::t,ns,h=>by
  unfold AF
  by_cases h1:s5 rs lo hg r=0
  .rw[yAI Ei]
   by_cases h2:lT ns r.name=true
   .rw[yAJ h2];exact⟨λe=>absurd e Ch,λe=>absurd ((JN _ _).1 h2) (R9 (t:=t.map cO.name) e.2)⟩
   .rw[yAI h2];have hs:r.name∉ns:=λe=>h2 ((JN _ _).2 e)
    have hn:(ns++[r.name]).Nodup:=by
     rw[yCB];exact ic
    rw[aFL rs lo hg t _ hn];simp[h1]
  .exact xg
theorem aFM(rs:List bP):∀(l:List bO) (ns:List (List UInt8)),ns.Nodup->(vX rs ns l=0↔(∀r∈l,fO r.name=true/\s6 rs r=0)/\(ns++l.map bO.name).Nodup)
 | [],ns,h=>by simp[vX,h]
 |r::t,ns,h=>by
  unfold vX
  by_cases h0:fO r.name=false
  .rw[yAJ h0];exact⟨λe=>absurd e Ch,λe=>absurd (e.1 r (yBe ..)).1 (by rw[h0];decide)⟩
  rw[yAI h0];have h0':fO r.name=true:=by simpa using h0
  by_cases h2:lT ns r.name=true
  .rw[yAJ h2];exact⟨λe=>absurd e Ch,λe=>absurd ((JN _ _).1 h2) (R9 (t:=t.map bO.name) e.2)⟩
  .rw[yAI h2];have hs:r.name∉ns:=λe=>h2 ((JN _ _).2 e)
   by_cases h1:s6 rs r=0
   .rw[yAI Ei];have hn:(ns++[r.name]).Nodup:=by
     rw[yCB];exact ic
    rw[aFM rs t _ hn];simp[h1,h0']
   .rw[yAJ h1];exact⟨λe=>absurd e h1,λe=>absurd (e.1 r (yBe ..)).2 h1⟩
def aAg(k:Nat)(c:cJ):Prop:=fO c.name=true/\(0<=c.dJ/\c.dJ<k/\0<=c.dst/\c.dst<k)/\(-127<=c.shift/\c.shift<=127)/\¬(c.dJ=c.dst/\c.shift=0)
theorem aFN(k:Nat):∀(l pre:List cJ),(pre.map cJ.name).Nodup->(uP k pre l=0↔(∀c∈l,aAg k c)/\(pre.map cJ.name++l.map cJ.name).Nodup)
 | [],pre,h=>by simp[uP,h]
 |c::t,pre,h=>by
  unfold uP
  by_cases h0:fO c.name=false
  .rw[yAJ h0];exact⟨λe=>absurd e Ch,λe=>absurd (e.1 c (yBe ..)).1 (by rw[h0];decide)⟩
  rw[yAI h0];have h0':fO c.name=true:=by simpa using h0
  have hm:pre.any (jZ c.name)=true↔c.name∈pre.map cJ.name:=by
   simp[jZ]
  by_cases h2:pre.any (jZ c.name)=true
  .rw[yAJ h2];exact⟨λe=>absurd e Ch,λe=>absurd (hm.1 h2) (R9 (t:=t.map cJ.name) e.2)⟩
  rw[yAI h2];have hs:c.name∉pre.map cJ.name:=λe=>h2 (hm.2 e)
  by_cases h3:c.dJ<0\/(k:Int)<=c.dJ\/c.dst<0\/(k:Int)<=c.dst
  .rw[yAJ h3];exact⟨λe=>absurd e Ch,λe=>by have:=(e.1 c (yBe ..)).2.1;omega⟩
  rw[yAI h3]
  by_cases h4:c.shift < -127\/127<c.shift
  .rw[yAJ h4];exact⟨λe=>absurd e Ch,λe=>by have:=(e.1 c (yBe ..)).2.2.1;omega⟩
  rw[yAI h4]
  by_cases h5:c.dJ=c.dst/\c.shift=0
  .rw[yAJ h5];exact⟨λe=>absurd e Ch,λe=>absurd h5 (e.1 c (yBe ..)).2.2.2⟩
  rw[yAI h5];have hn:((pre++[c]).map cJ.name).Nodup:=by
   rw[yAH,yCB];exact ic
  rw[aFN k t _ hn];have hc:aAg k c:=⟨h0',Cd,Cd,h5⟩;simp[hc]
theorem aQN(rs:List bP)(lo hg:Int)(s:cO):s5 rs lo hg s=0↔yK rs lo hg=0/\fO s.name=true/\s7 s.num s.den=0/\AB rs.length lo hg s.aO=0:=by
 unfold s5
 by_cases h1:yK rs lo hg=0
 .rw[yAI Ei]
  by_cases h2:fO s.name=false
  .rw[yAJ h2];exact⟨λe=>absurd e Ch,λe=>absurd e.2.1 (by rw[h2];decide)⟩
  rw[yAI h2]
  by_cases h3:s7 s.num s.den=0
  .rw[yAI Hz];exact⟨λe=>⟨h1,by simpa using h2,h3,e⟩,λe=>e.2.2.2⟩
  .rw[yAJ h3];exact⟨λe=>absurd e h3,λe=>absurd e.2.2.1 h3⟩
 .exact yf
theorem aAh(rs:List bP)(d:bO):s6 rs d=0↔mY d.low d.high=0/\d.stops.length<=60/\(∀s∈d.stops,s5 rs d.low d.high s=0)/\(d.stops.map cO.name).Nodup:=by
 unfold s6
 by_cases h1:mY d.low d.high=0
 .rw[yAI Ei]
  by_cases h2:60<d.stops.length
  .rw[yAJ h2];exact⟨λe=>absurd e Ch,λe=>Cd⟩
  rw[yAI h2,aFL rs d.low d.high d.stops [] Ce];exact⟨λe=>⟨h1,Cd,e.1,by simpa using e.2⟩,λe=>⟨e.2.2.1,by simpa using e.2.2.2⟩⟩
 .exact yf
theorem aFO(k:Nat)(lo hg:Int):∀(l:List jE) (pv:Option Int),AD k lo hg pv l=0->∀g∈l,nZ k g.aR=0
 | [],_,_,g,h=>Ck
 |a::t,pv,e,g,h=>by
  unfold AD at e;split at e
  .exact qu
  split at e
  .exact qu
  split at e
  .rename_i h1;exact absurd e h1
  .rename_i h1;rcases yBl.1 h with rfl|h
   .simpa using h1
   .exact aFO k lo hg t _ e g h
theorem aQO{k:Nat}{lo hg:Int}{l:List jE}(h:AB k lo hg l=0):l.length<=12/\∀g∈l,nZ k g.aR=0:=by
 unfold AB at h;split at h
 .exact ek
 split at h
 .exact ek
 .exact⟨Cd,aFO k lo hg l _ h⟩
theorem aFP(k:Nat):∀(l pre:List dQ),AA k pre l=0->∀w∈l,0<=w.aN/\w.aN<k
 | [],_,_,g,h=>Ck
 |a::t,pre,e,g,h=>by
  unfold AA at e;split at e
  .exact qu
  rename_i h1;split at e
  .exact qu
  split at e
  .exact qu
  .rcases yBl.1 h with rfl|h
   .omega
   .exact aFP k t _ e g h
theorem aQP{k:Nat}{l:List dQ}(h:nZ k l=0):l.length<=8/\∀w∈l,0<=w.aN/\w.aN<k:=by
 unfold nZ at h;split at h
 .exact ek
 .exact⟨Cd,aFP k l _ h⟩
theorem GS(o:aY):dG o=0↔fO o.name=true/\(o.aQ.length<=60/\(∀r∈o.aQ,pB r=0)/\(o.aQ.map bP.name).Nodup)/\((o.aD.length≠0/\o.aD.length<=8)/\(∀d∈o.aD,fO d.name=true/\s6 o.aQ d=0)/\(o.aD.map bO.name).Nodup)/\o.aL.length<=40/\(∀c∈o.aL,aAg o.aD.length c)/\(o.aL.map cJ.name).Nodup:=by
 unfold dG
 by_cases h1:fO o.name=false
 .rw[yAJ h1];exact⟨λe=>absurd e Ch,λe=>absurd e.1 (by rw[h1];decide)⟩
 rw[yAI h1];have Z1:fO o.name=true:=Ei
 by_cases h2:60<o.aQ.length
 .rw[yAJ h2];exact⟨λe=>absurd e Ch,λe=>by have:=e.2.1.1;omega⟩
 rw[yAI h2];have hr:=aFK o.aQ [] Ce;rw[yAW]at hr
 by_cases h3:s8 [] o.aQ=0
 .rw[yAI Hz];have h3':=hr.1 h3;unfold MU
  by_cases h4:o.aD.length=0
  .rw[yAJ h4];exact⟨λe=>absurd e Ch,λe=>absurd h4 e.2.2.1.1.1⟩
  rw[yAI h4]
  by_cases h5:8<o.aD.length
  .rw[yAJ h5];exact⟨λe=>absurd e Ch,λe=>by have:=e.2.2.1.1.2;omega⟩
  rw[yAI h5];have hd:=aFM o.aQ o.aD [] Ce;rw[yAW]at hd
  by_cases h6:vX o.aQ [] o.aD=0
  .rw[yAI (by simpa using h6)];have zV:=hd.1 h6;unfold CG;have hk:(jQ o.aD).length=o.aD.length:=by unfold jQ;rw[yAe]
   rw[hk]
   by_cases h7:40<o.aL.length
   .rw[yAJ (.inr h7)];exact⟨λe=>absurd e Ch,λe=>by have:=e.2.2.2.1;omega⟩
   rw[yAI Cd];have hc:CF (jQ o.aD)=false:=by
    unfold CF jQ;rw[yDC];intro x hx;obtain⟨d,hd,rfl⟩:=yAw.1 hx;simp[((aAh _ _).1 (zV.1 d hd).2).1]
   rw[hc,yAI Ch];have hq:=aFN o.aD.length o.aL [] Ce;rw[yBY,yAW]at hq;rw[hq];exact⟨λe=>⟨Z1,⟨Cd,h3'⟩,⟨⟨h4,Cd⟩,zV⟩,Cd,e⟩,λe=>e.2.2.2.2⟩
  .rw[yAJ h6];exact⟨λe=>absurd e h6,λe=>absurd (hd.2 e.2.2.1.2) h6⟩
 .rw[yAJ h3];exact⟨λe=>absurd e h3,λe=>absurd (hr.2 e.2.1.2) h3⟩
structure o0 (o:aY):Prop where
 name:lB o.name
 aQ:∀r∈o.aQ,xU r
 aD:∀d∈o.aD,rM d
 aL:∀c∈o.aL,lB c.name
def l7(x:bM):Prop:=lB x.name/\xU x.aN/\rM x.frame/\D6 x.stop/\lB x.bF.name
def jP(o:aY):Prop:=dG o=0/\o0 o
theorem l7.dT{x:bM}(h:l7 x):dT x:=⟨h.2.1.1,⟨h.2.2.1.2.1,λs hs=>(h.2.2.1.2.2 s hs).1⟩,h.2.2.2.1.1⟩
theorem o0.dP{o:aY}(h:o0 o)(h1:o.aQ.length<=1000000)(h2:o.aD.length<=1000000)(h3:o.aL.length<=1000000):dP o:=⟨h.name,⟨h.aQ,h1⟩,⟨h2,h.aD⟩,h3,h.aL⟩
theorem dP.fX{o:aY}(h:dP o):fX o:=⟨⟨h.2.1.2,λr hr=>(h.2.1.1 r hr).1⟩,⟨h.2.2.1.1,λd hd=>⟨(h.2.2.1.2 d hd).2.1,λs hs=>((h.2.2.1.2 d hd).2.2 s hs).1⟩⟩,h.2.2.2.1⟩
theorem dP.fit{o:aY}(h:dP o):o0 o:=⟨h.1,h.2.1.1,h.2.2.1.2,h.2.2.2.2⟩
theorem jP.bounds{o:aY}(h:jP o):o.aQ.length<=60/\o.aD.length<=8/\o.aL.length<=40/\∀d∈o.aD,d.stops.length<=60:=by
 obtain⟨_,h2,h3,h4,_⟩:=(GS o).1 h.1;exact⟨h2.1,h3.1.2,h4,λd hd=>((aAh _ _).1 (h3.2.1 d hd).2).2.1⟩
theorem jP.dP{o:aY}(h:jP o):dP o:=h.2.dP (by have:=h.bounds.1;omega) (by have:=h.bounds.2.1;omega) (by have:=h.bounds.2.2.1;omega)
theorem jP.aR{o:aY}(h:jP o):∀d∈o.aD,∀s∈d.stops,∀g∈s.aO,∀w∈g.aR,0<=w.aN/\w.aN<o.aQ.length:=λd hd s hs g hg=>by
 obtain⟨_,h2,h3,_⟩:=(GS o).1 h.1;have h4:=((aAh _ _).1 (h3.2.1 d hd).2).2.2.1 s hs;exact(aQP ((aQO ((aQN _ _ _ _).1 h4).2.2.2).2 g hg)).2
theorem jP.ends{o:aY}(h:jP o):∀c∈o.aL,(0<=c.dJ/\c.dJ<o.aD.length)/\0<=c.dst/\c.dst<o.aD.length:=λc hc=>by
 obtain⟨_,_,_,_,h4,_⟩:=(GS o).1 h.1;have:=(h4 c hc).2.1;exact⟨⟨this.1,this.2.1⟩,this.2.2⟩
def iQ(o:aY):aY×Int:=if dG o=0 then(o,0)else(vL,dG o)
def eI(wy i:Int)(n:Nat):Prop:=0<=i/\i<(if wy=0 then(n:Int)+1 else n)
def sL(wy i:Int)(r:bP)(o:aY):aY:={ eY wy i o with aQ:=aS o.aQ wy i.toNat r }
def sN(wy i:Int)(d:bO)(o:aY):aY:={ iZ wy i o with aD:=aS o.aD wy i.toNat d }
def rU(wy i:Int)(c:cJ)(o:aY):aY:={ o with aL:=aS o.aL wy i.toNat c }
def mV(wy i dv:Int)(s:cO)(o:aY):aY:={ o with aD:=o.aD.set dv.toNat { o.aD.getD dv.toNat aU with stops:=aS (o.aD.getD dv.toNat aU).stops wy i.toNat s } }
open Classical in
noncomputable def cP(o:aY)(x:bM):aY×Int:=
 if fS x≠0 then(vL,fS x)
 else if x.kind=13 then iQ { o with name:=x.name }
 else if (x.kind-1)/3=0 then(if eI ((x.kind-1)%3) x.idx o.aQ.length then(if sK ((x.kind-1)%3) x.idx o then iQ (sL ((x.kind-1)%3) x.idx x.aN o)else(vL,14))else(vL,10))
 else if (x.kind-1)/3=1 then(if eI ((x.kind-1)%3) x.idx o.aD.length then(if ∀c∈o.aL,oX ((x.kind-1)%3) x.idx c=true then iQ (sN ((x.kind-1)%3) x.idx x.frame o)else(vL,14))else(vL,10))
 else if (x.kind-1)/3=2 then(if (0<=x.div/\x.div<o.aD.length)/\eI ((x.kind-1)%3) x.idx (o.aD.getD x.div.toNat aU).stops.length then iQ (mV ((x.kind-1)%3) x.idx x.div x.stop o)else(vL,10))
 else(if eI ((x.kind-1)%3) x.idx o.aL.length then iQ (rU ((x.kind-1)%3) x.idx x.bF o)else(vL,10))
theorem aQQ{wy i:Int}{d:bO}(h:rM d):rM (oY wy i d):=by
 obtain⟨h1,h2,h3⟩:=h;refine⟨h1,by unfold oY;rw[yAe];exact h2,λs hs=>?_⟩;obtain⟨t,ht,rfl⟩:=yAw.1 hs;obtain⟨⟨k1,k2⟩,k3⟩:=h3 t ht;refine⟨⟨by unfold sM;rw[yAe];exact k1,λg hg=>?_⟩,k3⟩;obtain⟨q,hq,rfl⟩:=yAw.1 hg;have:=k2 q hq;unfold wH yZ wY at *;rw[yAe];exact this
theorem F1{α:Type}(l:List α)(wy:Int)(i:Nat)(x:α):(aS l wy i x).length<=l.length+1:=by
 unfold aS;split
 .rw[yAa,yAT,yAt,yBa];omega
 split
 .rw[yAa,yAt,yBa];omega
 .rw[yAD];omega
theorem IH{α:Type}{l:List α}{way:Int}{i:Nat}{x y:α}(h:y∈aS l way i x):y∈l\/y=x:=by
 unfold aS at h;split at h
 .rcases yBr.1 h with h|h
  .exact .inl (yAy h)
  .rcases yBl.1 h with h|h
   .exact .inr h
   .exact .inl (yBd h)
 .split at h
  .exact xq
  .exact yCN h
theorem BT{α:Type}{l:List α}{i:Nat}(h:i<l.length)(d:α):l.getD i d∈l:=by
 rw[yAA,yAh h];exact yAm h
theorem aEx{o:aY}{r:bP}(h:o0 o)(hr:xU r)(wy i:Int):o0 (sL wy i r o):=⟨h.name,λq hq=>by
 rcases IH hq with hq|rfl
 .exact h.aQ q hq
 .exact hr,λd hd=>by
 obtain⟨t,ht,rfl⟩:=yAw.1 hd;exact aQQ (h.aD t ht),h.aL⟩
theorem aEy{o:aY}{d:bO}(h:o0 o)(hr:rM d)(wy i:Int):o0 (sN wy i d o):=⟨h.name,h.aQ,λq hq=>by
 rcases IH hq with hq|rfl
 .exact h.aD q hq
 .exact hr,λc hc=>by
 obtain⟨t,ht,rfl⟩:=yAw.1 hc;exact h.aL t ht⟩
theorem VN{o:aY}{c:cJ}(h:o0 o)(hr:lB c.name)(wy i:Int):o0 (rU wy i c o):=⟨h.name,h.aQ,h.aD,λq hq=>by
 rcases IH hq with hq|rfl
 .exact h.aL q hq
 .exact hr⟩
theorem VM{o:aY}{s:cO}(h:o0 o)(hr:D6 s)(wy i dv:Int)(hd:dv.toNat<o.aD.length)(hl:(o.aD.getD dv.toNat aU).stops.length<=999999):o0 (mV wy i dv s o):=by
 have h0:=h.aD _ (BT hd aU);refine⟨h.name,h.aQ,λq hq=>?_,h.aL⟩;rcases yCN hq with hq|rfl
 .exact h.aD q hq
 .refine⟨h0.1,yAQ (F1 _ _ _ _) Cd,λt ht=>?_⟩;rcases IH ht with ht|rfl
  .exact h0.2.2 t ht
  .exact hr
end
section
def YC(E:aE):Prop:=∀(s:cO) (τ:List aA),jT s->aK prog E 0 (.inl 86) [Em.stop.aB s] τ (λp σ'=>SV σ' p s/\τ.length<=σ'.length/\∀id,id<τ.length->σ'[id]?=τ[id]?)
theorem mU.YE{σ σ':Jj}{lo:Nat}{d:bO}{p:PD}{iS:Nat}{ss:Jh}{tG:Nat->Nat}{tgs:Jg}{tW:Nat->Nat->Nat}(h:mU σ lo d p iS ss tG tgs tW)(hr:0<d.stops.length->σ'[iS]?=σ[iS]?)(k:aW oJ σ σ'):mU σ' lo d p iS ss tG tgs tW:=by
 obtain⟨h1,h2,h3,h4,h5⟩:=h;exact⟨h1,h2,λhp=>⟨(h3 hp).1,(hr hp).trans (h3 hp).2⟩,λs h=>⟨(h4 s h).1,(h4 s h).2.kept k⟩,h5⟩
theorem aEA{σ σ':Jj}{lo:Nat}{o:aY}{p:PD}{iR iD iC:Nat}{ds:Jh}{tS:Nat->Nat}{tss:Jg}{tG:Nat->Nat->Nat}{tgs:Jf}{tW:Nat->Nat->Nat->Nat}(hO:jC σ lo o p iR iD iC ds tS tss tG tgs tW)(d:Nat)(hd:d<o.aD.length)(Q:PD)(l:List cO)(hQ:SIn σ' Q l)
  (hk:aW oJ σ σ') (hs:∀d',d'≠d->(h:d'<o.aD.length)->0<o.aD[d'].stops.length->σ'[tS d']?=σ[tS d']?) (hr:σ'[iD]?=some (.row 53 5 0 (ds.set d [.str o.aD[d].name,.bool o.aD[d].dV,.int .i64 o.aD[d].low,.int .i64 o.aD[d].high,Q]).flatten)) :
  cX Em.div 5 kJ σ' (Go.Kz.hd 5 iD o.aD.length) (o.aD.set d { o.aD[d]with stops:=l }):=by
 have hA:eX (lL Em.div 7 j5 σ') (ds.set d [.str o.aD[d].name,.bool o.aD[d].dV,.int .i64 o.aD[d].low,.int .i64 o.aD[d].high,Q]) (o.aD.set d { o.aD[d]with stops:=l }):=by
  refine eX.of (by rw[yAD,yAD,hO.len]) λi h1 h2=>?_
  rw[yAD]at h1 h2
  by_cases e:i=d
  .subst e;rw[yCU,yCU];exact λτ eF=>QT (d:={ o.aD[i]with stops:=l }) (L:=6) (hQ.bJ τ eF)
  .rw[yDO (yAU e),yDO (yAU e)];have e1:=(yA.1 (hO.at_ i h2).1).2;rw[e1];exact((hO.at_ i h2).2.YE (λhp=>hs i e h2 hp) hk).wV
 have h0:=cX.row (R:=j5) (R':=kJ) (v:=0) Ch hr (.inl rfl) (λ_ h=>.inr h) (λ_ _ _ _ _ _ h=>h) (λg hg=>by
  rcases yCN hg with hg|rfl
  .exact uC hO.len (λi hi=>⟨_,(hO.at_ i hi).1,rfl⟩) g hg
  .rfl) hA
 rw[yAD]at h0;rw[qG Cd];exact h0
variable{E E1 E2 E3 E4 E5 E6:aE}(hU:aJ E)
include hU
theorem aNL(h0:E 42=none)(h1:E 78=some B0)(h2:E 41=some (dO prog E1 41))
  (H2:ClnS E1)
  (h3:E 56=some sQ) (h4:E 80=some (dO prog E2 80)) (U2:aJ E2) (F8:E2 80=none) (F9:E2 56=some sQ)
  (h5:E 85=some (dO prog E3 85)) (H5:X9 E3) (h8:E 86=some (dO prog E6 86)) (H8:YC E6) (h6:E 79=some (dO prog E4 79)) (H6:F5 E4)
  (o:aY) (x:bM) (ho:fX o) (hsh:w6 o) (hx:dT x) (hf:fS x=0) (hk:7<=x.kind/\x.kind<=9) (hokr:x.div.toNat<o.aD.length->dP (mV ((x.kind-1)%3) x.idx x.div x.stop o)) :
  aK prog E 0 (.inl 42) [Em.bY.aB o,Em.edit.aB x] [] (λp σ=>(¬((0<=x.div/\x.div<o.aD.length)/\eI ((x.kind-1)%3) x.idx (o.aD.getD x.div.toNat aU).stops.length)/\p=.aH [bE,.int .i64 10])\/(((0<=x.div/\x.div<o.aD.length)/\eI ((x.kind-1)%3) x.idx (o.aD.getD x.div.toNat aU).stops.length)/\∃P1 P2 P3,p=.aH [if dG (mV ((x.kind-1)%3) x.idx x.div x.stop o)=0 then .agg [.str o.name,P1,P2,P3]else bX,.int .i64 (dG (mV ((x.kind-1)%3) x.idx x.div x.stop o))]/\cX Em.aN 6 kI σ P1 o.aQ/\cX Em.div 5 kJ σ P2 (mV ((x.kind-1)%3) x.idx x.div x.stop o).aD/\cX Em.bF 5 jJ σ P3 o.aL)):=by
 have k1:=λfl σ=>IY hx fl σ
 rw[hf]at k1;have k3:=λfl σ=>GA (x:=x) ⟨Cd,Cd⟩ fl σ
 have hth:(x.kind-1)/3=2:=Cd;rw[hth]at k3;obtain⟨wy,hwy⟩:=gn ((x.kind-1)%3);have iI:wy=0\/wy=1\/wy=2:=Cd;rw[hwy]at k3 hokr;rw[hwy];have hx3:=hx.2.2;have k2:=(H2 o ho [.box (Em.bY.aB o),.box (Em.edit.aB x),.box (.agg [.str [],.slice 0 [] .full,.slice 0 [] .full,.slice 0 [] .full])]).e0 Ce;obtain⟨p,σ1,k2,⟨iR,iD,iC,ds,tS,tss,tG,tgs,tW,hO⟩,hl1,hk1⟩:=k2;have hp:=hO.p;have b0:=hk1 0 Ce;have b1:=hk1 1 Ce;have b2:=hk1 2 Ce;simp only[yBi,yBB]at b0 b1 b2;obtain⟨w0,z0⟩:=yA.1 b0;obtain⟨w1,z1⟩:=yA.1 b1;obtain⟨w2,z2⟩:=yA.1 b2;have YF:jC (σ1.set 0 (.box p)) 3 o p iR iD iC ds tS tss tG tgs tW:=hO.aM (σ':=σ1.set 0 (.box p)) (λid y h3 hy=>by
  have h3:3<=id:=h3;rw[yAd Cd];exact hy)
 have k4:=(aNR U2 F8 F9 x hk o p (σ1.set 0 (.box p)) 3 iR iD iC ds tS tss tG tgs tW YF ho).e0 (λe=>by
  have h:=yAL List.length e;rw[yAD,yAO]at h;omega)
 obtain⟨q4,σ2,k4,⟨L2,bT⟩,hq4⟩:=k4;subst hp;obtain⟨hR,hhR⟩:=gn (Go.Kz.hd 6 iR o.aQ.length);obtain⟨hD,hhD⟩:=gn (Go.Kz.hd 5 iD o.aD.length);obtain⟨hC,hhC⟩:=gn (Go.Kz.hd 5 iC o.aL.length);have pR:hR.plain=true:=Cu;have pD:hD.plain=true:=Cv;have pC:hC.plain=true:=Cw;have cR:hR.cells=[hR]:=Ed;have cD:hD.cells=[hD]:=Ee;have cC:hC.cells=[hC]:=Ef;unfold PD.plain at pR pD pC;unfold PD.cells at cR cD cC;simp only[hhR,hhD,hhC]at hO YF k2 k4 bT;have hS:(σ1.set 0 (.box (.agg [.str o.name,hR,hD,hC]))).length=σ1.length:=yAD;have eP:jC σ2 3 o (.agg [.str o.name,hR,hD,hC]) iR iD iC ds tS tss tG tgs tW:=YF.aM (σ':=σ2) (λid y h3 hy=>by
  rw[bT];exact bR hy)
 have gC:σ1.length<=σ2.length:=by rw[bT,yAa];omega
 obtain⟨kd,dv,ix,nm,⟨rn,rt,ra,rb,rf,wd⟩,⟨fn,fp,flo,fhi,fs⟩,⟨sn,sa,sb,sg⟩,⟨cn,ca,cb,cs,ct⟩⟩:=x;obtain⟨on,rs,dd,cc⟩:=o;have g0:σ2[0]?=some (.box (.agg [.str on,hR,hD,hC])):=by rw[bT,yAg Cd,yAj w0]
 have g1:=b1;rw[<-yAd (l:=σ1) (i:=0) (a:=.box (.agg [.str on,hR,hD,hC])) Cd,<-yAg (l₂:=L2) (by rw[yAD];omega),<-bT]at g1;have g2:=b2;rw[<-yAd (l:=σ1) (i:=0) (a:=.box (.agg [.str on,hR,hD,hC])) Cd,<-yAg (l₂:=L2) (by rw[yAD];omega),<-bT]at g2;simp only[bZ,fE,bC]at k1 k2 k3 k4 b0 b1 b2 hk hth hwy g1 z0 z1 z2;simp only[bZ,fE,bC];obtain⟨v0,y0⟩:=yA.1 g0;obtain⟨v1,y1⟩:=yA.1 g1;obtain⟨v2,y2⟩:=yA.1 g2;have uG:¬kd=13:=Cd;clear hU;have n2:σ2≠[]:=λe=>Cs
 rcases hq4 with⟨rfl,hbad⟩ | ⟨d,hd,hdv,rfl⟩
 .simp only at hbad;have hneg:¬((0<=dv/\dv<(dd.length:Int))/\eI wy ix (dd.getD dv.toNat aU).stops.length):=λh=>Cd
  by_cases hw0:wy=0
  .subst hw0;refine aK.aG 132 h0 func42 (h:=?_);refine aC Bl ?_;exact tv
  .have hz:=h0;refine aK.aG 132 h0 func42 (h:=?_);refine aC (A20 h1 k1 h2 k2 b0 w0 @z0 pR pD pC cR cD cC b1 w1 z1 b2 w2 @z2 (A14 uG h3 k3 h4 k4 @g0 @g1 @v0 y0 @v1 y1 @v2 y2 hw0)) ?_;exact tv
 simp only at hd hdv k4;subst hdv;have hcl:(dd[d]'hd).stops.length<=200:=hsh.2.2.2 _ (yAm hd);have hdq:(d:Int)<(dd.length:Int):=Cd;have hge:dd.getD d aU=dd[d]:=by rw[yAA,yAh hd];rfl
 have hed:mV wy ix (d:Int) ⟨sn,sa,sb,sg⟩ ⟨on,rs,dd,cc⟩=⟨on,rs,dd.set d { dd[d]with stops:=aS dd[d].stops wy ix.toNat ⟨sn,sa,sb,sg⟩ },cc⟩:=by
  unfold mV;simp only[yBj,hge]
 have hokr:=hokr hd;simp only[yBj,hge]at hokr ⊢;rw[hed]at hokr ⊢;have hpos:(0:Int)<=(d:Int):=Cd;simp only[hpos,hdq,yBA,yCj];obtain⟨sd,hsd⟩:=gn (dd[d]);have hDr:hD=.aP iD 0 0 dd.length 5:=by rw[<-hhD];exact qG (show 0<dd.length by omega)
 subst hDr;have xk:jH prog 32 (.aP iD 0 0 dd.length 5) (.int .i64 d)=some (.dM iD 0 (d*5)):=by
  simp[jV,hd]
 by_cases hw0:wy=0
 .subst hw0;unfold eI at *;simp only[yAK]
  by_cases i1:ix<0
  .have hz:=h0;refine aK.aG 132 h0 func42 (h:=?_);refine aC (A20 h1 k1 h2 k2 b0 w0 @z0 pR pC cR cC b1 w1 z1 b2 w2 @z2 uG h3 (A13 k3 h4 k4 @g0 @g1 @v0 y0 @v1 y1 @v2 y2 xk @i1)) ?_;exact gh
  by_cases i2:(dd[d].stops.length:Int)+1<=ix
  .have hz:=h0;refine aK.aG 132 h0 func42 (h:=?_);refine aC Bv ?_;exact gh
  have hwi:(0:Int)=0/\ix.toNat<=dd[d].stops.length\/((0:Int)=1\/(0:Int)=2)/\ix.toNat<dd[d].stops.length:=.inl ⟨rfl,Cd⟩;have hix:0<=ix/\ix<(dd[d].stops.length:Int)+1:=⟨Cd,Cd⟩;obtain⟨i,rfl⟩:∃i:Nat,ix=i:=⟨ix.toNat,Cd⟩;rw[yBj]at hokr hwi ⊢;refine aK.aG 132 h0 func42 (h:=?_);refine aC Bv ?_;have hlp:=gC;obtain⟨hsz,hrow,hAl⟩:=aEB ((eP.at_ d hd).2);have hDrow:=(eP.row (show 0<dd.length by omega)).2;have hDlo:=(eP.row (show 0<dd.length by omega)).1;have hDg:=(eP.at_ d hd).1;have uH:∀g∈ds,g.length=5:=uC eP.len λi hi=>⟨_,(eP.at_ i hi).1,rfl⟩
  have hdl:ds.length=dd.length:=eP.len;have n2':=n2;have k8:=(H8 ⟨sn,sa,sb,sg⟩ σ2 hx3).e0 n2;obtain⟨c,rN,k8,hDV,l8,fT⟩:=k8;have uI:rN≠[]:=λe=>by rw[e]at l8;exact n2 (yAf (yDb.1 l8))
  have sU:=(fT 0 v0).trans g0;have pO:=(fT 1 v1).trans g1;have B6:=(fT 2 v2).trans g2;have hDl:iD<σ2.length:=(yA.1 hDrow).1;have ucD:=(fT iD hDl).trans hDrow;have YG:∀R,aW R σ2 rN:=λR id t n v cs _ hy=>(fT id (yA.1 hy).1).trans hy
  have k5:=(H5 rN (tS d) (tss d) c dd[d].stops 0 i ⟨sn,sa,sb,sg⟩ hcl hsz (λhp=>(fT _ (yA.1 (hrow hp)).1).trans (hrow hp)) (hAl.imp λa b h=>h.aM (YG _)) hDV hwi uI).e0 uI;obtain⟨Q,bW,k5,lQ,jK,cE⟩:=k5;have hne:0<dd[d].stops.length->iD≠tS d:=λhp e=>by
   have h1:=hrow hp;rw[<-e,hDrow]at h1;exact lz
  have hno:∀(j:Nat) (b:PD),σ2[j]?=some (.box b)->0<dd[d].stops.length->j≠tS d:=λj b hj hp e=>by
   have h1:=hrow hp;rw[<-e,hj]at h1;cases h1
  have s0:=cE 0 _ sU (hno 0 _ g0);have s1:=cE 1 _ pO (hno 1 _ g1);have s2:=cE 2 _ B6 (hno 2 _ g2);have sD:=cE iD _ ucD hne;obtain⟨f0,d0⟩:=yA.1 s0;obtain⟨f2,d2⟩:=yA.1 s2;obtain⟨fD,dD⟩:=yA.1 sD;obtain⟨vD,yD⟩:=yA.1 hDrow;have pQ:=lQ.plain;have cQ:=lQ.cells;unfold PD.plain at pQ;unfold PD.cells at cQ;have o5:=pP (B:=[iD,1]) h5 k5 jK (λid hi h=>by
   simp only[yBl,yBN,yBO]at hi;rcases hi with rfl|rfl
   .rw[sD,ucD]
   .rw[s1,pO])
  have uJ:=pP (B:=[iD,1]) h8 k8 l8 (λid _ h=>fT id h);simp only[pZ,bC]at uJ;have hflat:=lA ds uH;have hgd:=(yA.1 hDg).2;have hat:=qX (sz:=5) ds d Cd uH;have hfs:=w8 (sz:=5) (new:=[Q]) (j:=3+1) Ce ds d Cd uH;rw[hgd]at hat hfs;have uK:(ds.flatten.drop (d*5+4)).take 1=[Go.Kz.hd 4 (tS d) dd[d].stops.length]:=by
   exact Ag
  have hset:dL [PD.str dd[d].name,.bool dd[d].dV,.int .i64 dd[d].low,.int .i64 dd[d].high,Go.Kz.hd 4 (tS d) dd[d].stops.length] (3+1) [Q]=[.str dd[d].name,.bool dd[d].dV,.int .i64 dd[d].low,.int .i64 dd[d].high,Q]:=rfl;rw[hset]at hfs;have fJ:d*5+4+1<=ds.flatten.length:=Cd;obtain⟨w9,x6⟩:=gn (ds.flatten);rw[x6]at hDrow ucD sD uK hfs fJ yD dD;obtain⟨nY,hhS⟩:=gn (Go.Kz.hd 4 (tS d) dd[d].stops.length);have pS:nY.plain=true:=Fy;have cS:nY.cells=[nY]:=Fz;unfold PD.plain at pS;unfold PD.cells at cS;rw[hhS]at uK o5;have IZ:w9[d*5+4]' Cd=nY:=by
   exact fy
  have GB:=hfs;simp only[dL,yAT,yAO,yAp,Nat.reduceAdd,yAi,yBt,yAW,yBW]at GB;refine Wp.aEC h8 DR n2 [(3,1),(11,iD)] [iD,1] [some iD,some 1] Cj ⟨⟨_,rfl,rfl⟩,⟨_,rfl,rfl⟩,trivial⟩ Cf Ek ?_;refine TD Bw ?_;apply SQ.nil;obtain⟨ds',GC⟩:∃x,ds.set d [.str dd[d].name,.bool dd[d].dV,.int .i64 dd[d].low,.int .i64 dd[d].high,Q]=x:=⟨_,rfl⟩;rw[GC]at GB
  try rw[GC]
  obtain⟨dA,zV⟩:∃s,bW.set iD (.row 53 5 0 ds'.flatten)=s:=⟨_,rfl⟩;rw[zV];have g6:∀j,j≠iD->dA[j]?=bW[j]?:=λj hj=>by rw[<-zV,yAd (yAU hj)]
  have r6:dA[iD]?=some (.row 53 5 0 ds'.flatten):=by rw[<-zV];exact yAj fD
  have kf:∀(R:TypeId->Prop),(∀t,R t->t≠53/\t≠56)->aW R σ2 dA:=λR hR id t n v cs ht hy=>by
   exact gy
  obtain⟨hi1,hi2,qY⟩:=sS eP hsh;have m1:=(qD.qF hi1).aM (kf kI (λt h=>Da));have m3:=(o4.qF qY).aM (kf jJ (λt h=>Da));have m2:=aEA (σ':=dA) eP d hd Q (aS dd[d].stops 0 i ⟨sn,sa,sb,sg⟩) ⟨lQ.plain,lQ.cells,λτ eF=>lQ.bJ τ (aW.trans (λid t n v cs ht hy=>by
    rw[g6 id (λe=>by rw[e,sD]at hy;have:=(aA.row.inj (yAS hy)).1;rcases ht with h|h|h<;>rw[h]at this<;>exact absurd this Ch)];exact hy) eF)⟩ (kf oJ (λt h=>by rcases h with h|h<;>rw[h]<;>decide)) (λd' hne h hp=>by
     have jI:=((eP.at_ d' h).2.row hp).2;rw[g6 _ (λe=>by rw[e,hDrow]at jI;exact absurd (aA.row.inj (yAS jI)).1 Ch),jI];exact cE _ _ ((fT _ (yA.1 jI).1).trans jI) (λjY e=>hne (eP.YH d' d h hd hp jY e))) (by rw[GC];exact r6)
  simp only at m1 m2 m3;rw[hhR]at m1;rw[show Go.Kz.hd 5 iD dd.length=.aP iD 0 0 dd.length 5 from qG Cd]at m2;rw[hhC]at m3;have n6:dA≠[]:=λe=>by rw[e]at r6;cases r6
  have k6:=(H6 _ on hR (.aP iD 0 0 dd.length 5) hC rs _ cc m1 m2 m3 hokr n6).e0 n6;obtain⟨q,eG,k6,rfl,L5,rfl⟩:=k6;obtain⟨e,he⟩:=gn (dG ⟨on,rs,dd.set d { dd[d]with stops:=aS dd[d].stops 0 i ⟨sn,sa,sb,sg⟩ },cc⟩);exact bq
 .unfold eI at *;simp only[hw0,yAN]
  by_cases i1:ix<0
  .have hz:=h0;refine aK.aG 132 h0 func42 (h:=?_);refine aC (A20 h1 k1 h2 k2 b0 w0 @z0 pR pC cR cC b1 w1 z1 b2 w2 @z2 uG h3 (A14 k3 h4 k4 @g0 @g1 @v0 y0 @v1 y1 @v2 y2 xk @i1 hw0)) ?_;exact gh
  by_cases i2:(dd[d].stops.length:Int)<=ix
  .have hz:=h0;refine aK.aG 132 h0 func42 (h:=?_);refine aC Bx ?_;exact gh
  have hwi:wy=0/\ix.toNat<=dd[d].stops.length\/(wy=1\/wy=2)/\ix.toNat<dd[d].stops.length:=Cd;have hix:0<=ix/\ix<(dd[d].stops.length:Int):=Cd;obtain⟨i,rfl⟩:∃i:Nat,ix=i:=⟨ix.toNat,Cd⟩;rw[yBj]at hokr hwi ⊢;refine aK.aG 132 h0 func42 (h:=?_);refine aC Bx ?_;have hlp:=gC;obtain⟨hsz,hrow,hAl⟩:=aEB ((eP.at_ d hd).2);have hDrow:=(eP.row (show 0<dd.length by omega)).2;have hDlo:=(eP.row (show 0<dd.length by omega)).1;have hDg:=(eP.at_ d hd).1;have uH:∀g∈ds,g.length=5:=uC eP.len λi hi=>⟨_,(eP.at_ i hi).1,rfl⟩
  have hdl:ds.length=dd.length:=eP.len;have n2':=n2;have k8:=(H8 ⟨sn,sa,sb,sg⟩ σ2 hx3).e0 n2;obtain⟨c,rN,k8,hDV,l8,fT⟩:=k8;have uI:rN≠[]:=λe=>by rw[e]at l8;exact n2 (yAf (yDb.1 l8))
  have sU:=(fT 0 v0).trans g0;have pO:=(fT 1 v1).trans g1;have B6:=(fT 2 v2).trans g2;have hDl:iD<σ2.length:=(yA.1 hDrow).1;have ucD:=(fT iD hDl).trans hDrow;have YG:∀R,aW R σ2 rN:=λR id t n v cs _ hy=>(fT id (yA.1 hy).1).trans hy
  have k5:=(H5 rN (tS d) (tss d) c dd[d].stops wy i ⟨sn,sa,sb,sg⟩ hcl hsz (λhp=>(fT _ (yA.1 (hrow hp)).1).trans (hrow hp)) (hAl.imp λa b h=>h.aM (YG _)) hDV hwi uI).e0 uI;obtain⟨Q,bW,k5,lQ,jK,cE⟩:=k5;have hne:0<dd[d].stops.length->iD≠tS d:=λhp e=>by
   have h1:=hrow hp;rw[<-e,hDrow]at h1;exact lz
  have hno:∀(j:Nat) (b:PD),σ2[j]?=some (.box b)->0<dd[d].stops.length->j≠tS d:=λj b hj hp e=>by
   have h1:=hrow hp;rw[<-e,hj]at h1;cases h1
  have s0:=cE 0 _ sU (hno 0 _ g0);have s1:=cE 1 _ pO (hno 1 _ g1);have s2:=cE 2 _ B6 (hno 2 _ g2);have sD:=cE iD _ ucD hne;obtain⟨f0,d0⟩:=yA.1 s0;obtain⟨f2,d2⟩:=yA.1 s2;obtain⟨fD,dD⟩:=yA.1 sD;obtain⟨vD,yD⟩:=yA.1 hDrow;have pQ:=lQ.plain;have cQ:=lQ.cells;unfold PD.plain at pQ;unfold PD.cells at cQ;have o5:=pP (B:=[iD,1]) h5 k5 jK (λid hi h=>by
   simp only[yBl,yBN,yBO]at hi;rcases hi with rfl|rfl
   .rw[sD,ucD]
   .rw[s1,pO])
  have uJ:=pP (B:=[iD,1]) h8 k8 l8 (λid _ h=>fT id h);simp only[pZ,bC]at uJ;have hflat:=lA ds uH;have hgd:=(yA.1 hDg).2;have hat:=qX (sz:=5) ds d Cd uH;have hfs:=w8 (sz:=5) (new:=[Q]) (j:=3+1) Ce ds d Cd uH;rw[hgd]at hat hfs;have uK:(ds.flatten.drop (d*5+4)).take 1=[Go.Kz.hd 4 (tS d) dd[d].stops.length]:=by
   exact Ag
  have hset:dL [PD.str dd[d].name,.bool dd[d].dV,.int .i64 dd[d].low,.int .i64 dd[d].high,Go.Kz.hd 4 (tS d) dd[d].stops.length] (3+1) [Q]=[.str dd[d].name,.bool dd[d].dV,.int .i64 dd[d].low,.int .i64 dd[d].high,Q]:=rfl;rw[hset]at hfs;have fJ:d*5+4+1<=ds.flatten.length:=Cd;obtain⟨w9,x6⟩:=gn (ds.flatten);rw[x6]at hDrow ucD sD uK hfs fJ yD dD;obtain⟨nY,hhS⟩:=gn (Go.Kz.hd 4 (tS d) dd[d].stops.length);have pS:nY.plain=true:=Fy;have cS:nY.cells=[nY]:=Fz;unfold PD.plain at pS;unfold PD.cells at cS;rw[hhS]at uK o5;have IZ:w9[d*5+4]' Cd=nY:=by
   exact fy
  have GB:=hfs;simp only[dL,yAT,yAO,yAp,Nat.reduceAdd,yAi,yBt,yAW,yBW]at GB;refine Wp.aEC h8 DR n2 [(3,1),(11,iD)] [iD,1] [some iD,some 1] Cj ⟨⟨_,rfl,rfl⟩,⟨_,rfl,rfl⟩,trivial⟩ Cf Ek ?_;refine TD Bw ?_;apply SQ.nil;obtain⟨ds',GC⟩:∃x,ds.set d [.str dd[d].name,.bool dd[d].dV,.int .i64 dd[d].low,.int .i64 dd[d].high,Q]=x:=⟨_,rfl⟩;rw[GC]at GB
  try rw[GC]
  obtain⟨dA,zV⟩:∃s,bW.set iD (.row 53 5 0 ds'.flatten)=s:=⟨_,rfl⟩;rw[zV];have g6:∀j,j≠iD->dA[j]?=bW[j]?:=λj hj=>by rw[<-zV,yAd (yAU hj)]
  have r6:dA[iD]?=some (.row 53 5 0 ds'.flatten):=by rw[<-zV];exact yAj fD
  have kf:∀(R:TypeId->Prop),(∀t,R t->t≠53/\t≠56)->aW R σ2 dA:=λR hR id t n v cs ht hy=>by
   exact gy
  obtain⟨hi1,hi2,qY⟩:=sS eP hsh;have m1:=(qD.qF hi1).aM (kf kI (λt h=>Da));have m3:=(o4.qF qY).aM (kf jJ (λt h=>Da));have m2:=aEA (σ':=dA) eP d hd Q (aS dd[d].stops wy i ⟨sn,sa,sb,sg⟩) ⟨lQ.plain,lQ.cells,λτ eF=>lQ.bJ τ (aW.trans (λid t n v cs ht hy=>by
    rw[g6 id (λe=>by rw[e,sD]at hy;have:=(aA.row.inj (yAS hy)).1;rcases ht with h|h|h<;>rw[h]at this<;>exact absurd this Ch)];exact hy) eF)⟩ (kf oJ (λt h=>by rcases h with h|h<;>rw[h]<;>decide)) (λd' hne h hp=>by
     have jI:=((eP.at_ d' h).2.row hp).2;rw[g6 _ (λe=>by rw[e,hDrow]at jI;exact absurd (aA.row.inj (yAS jI)).1 Ch),jI];exact cE _ _ ((fT _ (yA.1 jI).1).trans jI) (λjY e=>hne (eP.YH d' d h hd hp jY e))) (by rw[GC];exact r6)
  simp only at m1 m2 m3;rw[hhR]at m1;rw[show Go.Kz.hd 5 iD dd.length=.aP iD 0 0 dd.length 5 from qG Cd]at m2;rw[hhC]at m3;have n6:dA≠[]:=λe=>by rw[e]at r6;cases r6
  have k6:=(H6 _ on hR (.aP iD 0 0 dd.length 5) hC rs _ cc m1 m2 m3 hokr n6).e0 n6;obtain⟨q,eG,k6,rfl,L5,rfl⟩:=k6;obtain⟨e,he⟩:=gn (dG ⟨on,rs,dd.set d { dd[d]with stops:=aS dd[d].stops wy i ⟨sn,sa,sb,sg⟩ },cc⟩);exact bq
end
theorem QS{σ:Jj}{on:Jl}{P1 P2 P3:PD}{rs:List bP}{dd:List bO}{cc:List cJ}(l1:cX Em.aN 6 kI σ P1 rs)(l2:cX Em.div 5 kJ σ P2 dd)(l3:cX Em.bF 5 jJ σ P3 cc)(K:Nat) :
  (bJ σ (K+9) (.agg [.str on,P1,P2,P3])).strip=Em.bY.aB ⟨on,rs,dd,cc⟩/\(bJ σ (K+9) (.agg [.str on,P1,P2,P3])).cI=true:=by
 obtain⟨a1,a2⟩:=l1.bJ σ (λ_ _ _ _ _ _ h=>h) K;obtain⟨b1,b2⟩:=l2.bJ σ (λ_ _ _ _ _ _ h=>h) K;obtain⟨c1,c2⟩:=l3.bJ σ (λ_ _ _ _ _ _ h=>h) K;refine⟨?_,?_⟩
 .show PD.agg [PD.strip (.str on),PD.strip (bJ σ (K+8) P1),PD.strip (bJ σ (K+8) P2),PD.strip (bJ σ (K+8) P3)]=_
  rw[a1,b1,c1];rfl
 .show(PD.cI (.str on)&&(PD.cI (bJ σ (K+8) P1)&&(PD.cI (bJ σ (K+8) P2)&&(PD.cI (bJ σ (K+8) P3)&&true))))=true
  rw[a2,b2,c2];rfl
theorem F7{Eo:aE}{σ:Jj}{on:Jl}{P1 P2 P3:PD}{rs:List bP}{dd:List bO}{cc:List cJ}(l1:cX Em.aN 6 kI σ P1 rs)(l2:cX Em.div 5 kJ σ P2 dd)(l3:cX Em.bF 5 jJ σ P3 cc)(h:aI prog Eo 27 [Em.bY.aB ⟨on,rs,dd,cc⟩] (i64.aB (dG ⟨on,rs,dd,cc⟩)))(fl:Nat) :
  qC (pL prog Eo 27) fl [.agg [.str on,P1,P2,P3]] σ=some (.int .i64 (dG ⟨on,rs,dd,cc⟩),σ):=by
 obtain⟨e1,e2⟩:=QS (on:=on) l1 l2 l3 11;have e3:pL prog Eo 27 [bJ σ 20 (.agg [.str on,P1,P2,P3])]=some (.int .i64 (dG ⟨on,rs,dd,cc⟩)):=aNN (by rw[List.map_singleton,e1];exact h) rfl;unfold qC;simp only[List.map_singleton,PD.fZ,e2,yDm,yAK,e3]
theorem aNl{E Eo:aE}(h0:E 79=none)(h1:E 27=some (qC (pL prog Eo 27)))(ho:∀o,dP o->aI prog Eo 27 [Em.bY.aB o] (i64.aB (dG o))):F5 E:=by
 intro σ on P1 P2 P3 rs dd cc l1 l2 l3 hok eT;have k1:=λL:List aA=>F7 (on:=on) (l1.aM (aW.app _ σ L)) (l2.aM (aW.app _ σ L)) (l3.aM (aW.app _ σ L)) (ho _ hok)
 have k0:=F7 (on:=on) l1 l2 l3 (ho _ hok);obtain⟨e,he⟩:=gn (dG ⟨on,rs,dd,cc⟩);rw[he]at k0;simp only[he]at k1 ⊢;have p1:=l1.plain;have p2:=l2.plain;have p3:=l3.plain;have c1:=l1.cells;have c2:=l2.cells;have c3:=l3.cells;unfold PD.plain at p1 p2 p3;unfold PD.cells at c1 c2 c3;refine aK.aG 12 h0 func79 (h:=?_);apply WL.tI Cj;apply SL.box (p:=.agg [.str on,P1,P2,P3]) (hw:=Wt.i rfl) (hx:=rfl) (hp:=by simp[p1,p2,p3]) (hr:=Ns.i rfl) (hn:=Ns.i rfl) (hf:=Fr.i rfl);refine oQ p1 ?_;apply SQ.nil
 by_cases hz:e=0
 .subst hz;refine aC (A9 h1 k0 k1 p1 p2 p3 c1 c2 c3) ?_;exact⟨.aH [.agg [.str on,P1,P2,P3],.int .i64 0],σ++[.box (.agg [.str on,P1,P2,P3]),.box (.agg [.str on,P1,P2,P3])],by simp[bV],by rw[yAJ rfl],_,rfl⟩
 .refine aC (A10 h1 k0 k1 @hz p1 p2 p3 c1 c2 c3) ?_;exact⟨.aH [bX,.int .i64 e],σ++[.box (.agg [.str on,P1,P2,P3]),.box bX],by simp[bV,bX],Gb,_,rfl⟩
noncomputable def LZ:Nat->List PD->List aA->Option (PD×List aA):=entry (wI i64 i64 i64 Em.aNO λn w i=>eL (-1000000000<=n/\n<=1000000000) (some (dR n w i)))
theorem aEz(w i n:Int)(h:-1000000000<=n/\n<=1000000000)(fl:Nat)(σ:List aA):LZ fl [.int .i64 n,.int .i64 w,.int .i64 i] σ=some (.aH [.int .i64 (dR n w i).1,.bool (dR n w i).2],σ):=by
 have e:∀z:Int,i64.dec (.int .i64 z)=some z:=λz=>Em.dC (i64.str z)
 unfold LZ entry wI;simp only[e,fY h];rfl
theorem aND{E:aE}(hU:aJ E)(h0:E 86=none)(h1:E 118=some (jA 92 3))(h2:E 119=some (jA 89 2)):YC E:=λs τ hs=>
 (X5 hU h0 h1 h2 s hs τ).mono λ_ _ ⟨⟨_,_,_,h⟩,a,b⟩=>⟨h.sv,a,b⟩
theorem aNF{E E0:aE}(hU:aJ E)(hU0:aJ E0)(h0:E 77=none)(h1:E 110=some (jA 56 4))(h2:E 86=some (dO prog E0 86))
  (k0:E0 86=none) (k1:E0 118=some (jA 92 3)) (k2:E0 119=some (jA 89 2)):YD E DV:=λd τ hs=>
 (aEw hU h0 h1 h2 (λs hs τ=>X5 hU0 k0 k1 k2 s hs τ) d hs τ).mono λ_ _ ⟨⟨_,_,_,_,_,h⟩,a,b⟩=>⟨h.dv,a,b⟩
theorem aNz{E:aE}(hU:aJ E)(h0:E 81=none)(h1:E 111=some LZ):YA E:=λway index o p aV lo iR iD iC ds tS tss tG tgs tW hO hl ho hb hw=>aNP hU h0 h1 way index (λn hn=>aEz way index n hn) o p aV lo iR iD iC ds tS tss tG tgs tW hO hl ho hb hw
theorem aNB{E:aE}(hU:aJ E)(h0:E 83=none)(h1:E 111=some LZ):YB E:=λway index o p aV lo iR iD iC ds tS tss tG tgs tW hO hl ho hb=>aNQ hU h0 h1 way index (λn hn=>aEz way index n hn) o p aV lo iR iD iC ds tS tss tG tgs tW hO hl ho hb
theorem II{E:aE}{f:FuncId}{args:Jk}{p:PD}{σ:Jj}(h:nO prog E 0 (.inl f) args [] p σ){on:Jl}{P1 P2 P3:PD}{rs:List bP}{dd:List bO}{cc:List cJ}(hp:p=.aH [if dG ⟨on,rs,dd,cc⟩=0 then .agg [.str on,P1,P2,P3]else bX,.int .i64 (dG ⟨on,rs,dd,cc⟩)])
  (l1:cX Em.aN 6 kI σ P1 rs) (l2:cX Em.div 5 kJ σ P2 dd) (l3:cX Em.bF 5 jJ σ P3 cc):RunT prog E f args ((Em.bY.p7 i64).aB (iQ ⟨on,rs,dd,cc⟩)):=by
 refine⟨20,p,σ,h,?_,?_⟩
 .subst hp;unfold iQ
  by_cases hz:dG ⟨on,rs,dd,cc⟩=0
  .rw[yAJ hz,yAJ hz,hz];show PD.aH [PD.strip (bJ σ 19 (.agg [.str on,P1,P2,P3])),.int .i64 0]=_
   rw[(QS l1 l2 l3 10).1];rfl
  .rw[yAI hz,yAI hz];rfl
 .subst hp
  by_cases hz:dG ⟨on,rs,dd,cc⟩=0
  .rw[yAJ hz];show(PD.cI (bJ σ 19 (.agg [.str on,P1,P2,P3]))&&(true&&true))=true
   rw[(QS l1 l2 l3 10).2];rfl
  .rw[yAI hz];rfl
theorem xW{E:aE}{f:FuncId}{args:Jk}{p:PD}{σ:Jj}(h:nO prog E 0 (.inl f) args [] p σ){e:Int}(hp:p=.aH [bE,.int .i64 e]):RunT prog E f args ((Em.bY.p7 i64).aB (vL,e)):=⟨20,p,σ,h,by rw[hp];rfl,by rw[hp];rfl⟩
theorem jP.short{o:aY}(h:jP o):w6 o:=by
 obtain⟨h1,h2,h3,h4⟩:=h.bounds;exact⟨Cd,Cd,Cd,λd hd=>yAQ (h4 d hd) Ch⟩
end Go.Kz
