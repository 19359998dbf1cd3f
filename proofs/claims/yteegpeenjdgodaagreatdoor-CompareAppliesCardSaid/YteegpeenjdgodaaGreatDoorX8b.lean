/- Steps of the proof. -/
import Derived.Test.YteegpeenjdgodaaGreatDoorX8
set_option linter.all false
set_option maxHeartbeats 40000000
set_option maxRecDepth 100000
open Go.Proofs.Tryz
namespace Go.Kz
open Go Go.Proofs
section
theorem JX(ns:List (List UInt8))(nm:List UInt8):lX ns nm=true↔nm∈ns:=by simp[lX]
theorem S3{α:Type}{ns t:List α}{x:α}(h:(ns++x::t).Nodup):x∉ns:=λhx=>(yCB.1 h).2.2 x hx x (yBf ..) rfl
theorem aGk:∀(l:List bH) (ns:List (List UInt8)),ns.Nodup->(s8 ns l=0↔(∀r∈l,pA r=0)/\(ns++l.map bH.name).Nodup)
 | [],ns,h=>by simp[s8,h]
 |r::t,ns,h=>by
  unfold s8
  by_cases h1:pA r=0
  .rw[yAI Ei]
   by_cases h2:lX ns r.name=true
   .rw[yAJ h2];exact⟨λe=>absurd e Cn,λe=>absurd ((JX _ _).1 h2) (S3 (t:=t.map bH.name) e.2)⟩
   .rw[yAI h2];have hs:r.name∉ns:=λe=>h2 ((JX _ _).2 e)
    have hn:(ns++[r.name]).Nodup:=by
     rw[yCB];exact ir
    rw[aGk t _ hn];simp[h1]
  .exact xu
theorem aGl(rs:List bH)(lo hg:Int):∀(l:List cJ) (ns:List (List UInt8)),ns.Nodup->(AH rs lo hg ns l=0↔(∀r∈l,s5 rs lo hg r=0)/\(ns++l.map cJ.name).Nodup)
 | [],ns,h=>by simp[AH,h]
 |r::t,ns,h=>by
  unfold AH
  by_cases h1:s5 rs lo hg r=0
  .rw[yAI Ei]
   by_cases h2:lX ns r.name=true
   .rw[yAJ h2];exact⟨λe=>absurd e Cn,λe=>absurd ((JX _ _).1 h2) (S3 (t:=t.map cJ.name) e.2)⟩
   .rw[yAI h2];have hs:r.name∉ns:=λe=>h2 ((JX _ _).2 e)
    have hn:(ns++[r.name]).Nodup:=by
     rw[yCB];exact ir
    rw[aGl rs lo hg t _ hn];simp[h1]
  .exact xu
theorem aGm(rs:List bH):∀(l:List bI) (ns:List (List UInt8)),ns.Nodup->(vV rs ns l=0↔(∀r∈l,fN r.name=true/\s6 rs r=0)/\(ns++l.map bI.name).Nodup)
 | [],ns,h=>by simp[vV,h]
 |r::t,ns,h=>by
  unfold vV
  by_cases h0:fN r.name=false
  .rw[yAJ h0];exact⟨λe=>absurd e Cn,λe=>absurd (e.1 r (yBf ..)).1 (by rw[h0];decide)⟩
  rw[yAI h0];have h0':fN r.name=true:=by simpa using h0
  by_cases h2:lX ns r.name=true
  .rw[yAJ h2];exact⟨λe=>absurd e Cn,λe=>absurd ((JX _ _).1 h2) (S3 (t:=t.map bI.name) e.2)⟩
  .rw[yAI h2];have hs:r.name∉ns:=λe=>h2 ((JX _ _).2 e)
   by_cases h1:s6 rs r=0
   .rw[yAI Ei];have hn:(ns++[r.name]).Nodup:=by
     rw[yCB];exact ir
    rw[aGm rs t _ hn];simp[h1,h0']
   .rw[yAJ h1];exact⟨λe=>absurd e h1,λe=>absurd (e.1 r (yBf ..)).2 h1⟩
def aAF(k:Nat)(c:bX):Prop:=fN c.name=true/\(0<=c.dK/\c.dK<k/\0<=c.dst/\c.dst<k)/\(-127<=c.shift/\c.shift<=127)/\¬(c.dK=c.dst/\c.shift=0)
theorem aGn(k:Nat):∀(l pre:List bX),(pre.map bX.name).Nodup->(uR k pre l=0↔(∀c∈l,aAF k c)/\(pre.map bX.name++l.map bX.name).Nodup)
 | [],pre,h=>by simp[uR,h]
 |c::t,pre,h=>by
  unfold uR
  by_cases h0:fN c.name=false
  .rw[yAJ h0];exact⟨λe=>absurd e Cn,λe=>absurd (e.1 c (yBf ..)).1 (by rw[h0];decide)⟩
  rw[yAI h0];have h0':fN c.name=true:=by simpa using h0
  have hm:pre.any (jX c.name)=true↔c.name∈pre.map bX.name:=by
   simp[jX]
  by_cases h2:pre.any (jX c.name)=true
  .rw[yAJ h2];exact⟨λe=>absurd e Cn,λe=>absurd (hm.1 h2) (S3 (t:=t.map bX.name) e.2)⟩
  rw[yAI h2];have hs:c.name∉pre.map bX.name:=λe=>h2 (hm.2 e)
  by_cases h3:c.dK<0\/(k:Int)<=c.dK\/c.dst<0\/(k:Int)<=c.dst
  .rw[yAJ h3];exact⟨λe=>absurd e Cn,λe=>by have:=(e.1 c (yBf ..)).2.1;omega⟩
  rw[yAI h3]
  by_cases h4:c.shift < -127\/127<c.shift
  .rw[yAJ h4];exact⟨λe=>absurd e Cn,λe=>by have:=(e.1 c (yBf ..)).2.2.1;omega⟩
  rw[yAI h4]
  by_cases h5:c.dK=c.dst/\c.shift=0
  .rw[yAJ h5];exact⟨λe=>absurd e Cn,λe=>absurd h5 (e.1 c (yBf ..)).2.2.2⟩
  rw[yAI h5];have hn:((pre++[c]).map bX.name).Nodup:=by
   rw[yAH,yCB];exact ir
  rw[aGn k t _ hn];have hc:aAF k c:=⟨h0',Cj,Cj,h5⟩;simp[hc]
theorem aRl(rs:List bH)(lo hg:Int)(s:cJ):s5 rs lo hg s=0↔yF rs lo hg=0/\fN s.name=true/\s7 s.num s.den=0/\AE rs.length lo hg s.aN=0:=by
 unfold s5
 by_cases h1:yF rs lo hg=0
 .rw[yAI Ei]
  by_cases h2:fN s.name=false
  .rw[yAJ h2];exact⟨λe=>absurd e Cn,λe=>absurd e.2.1 (by rw[h2];decide)⟩
  rw[yAI h2]
  by_cases h3:s7 s.num s.den=0
  .rw[yAI Ie];exact⟨λe=>⟨h1,by simpa using h2,h3,e⟩,λe=>e.2.2.2⟩
  .rw[yAJ h3];exact⟨λe=>absurd e h3,λe=>absurd e.2.2.1 h3⟩
 .exact yu
theorem aAG(rs:List bH)(d:bI):s6 rs d=0↔nG d.low d.high=0/\d.stops.length<=60/\(∀s∈d.stops,s5 rs d.low d.high s=0)/\(d.stops.map cJ.name).Nodup:=by
 unfold s6
 by_cases h1:nG d.low d.high=0
 .rw[yAI Ei]
  by_cases h2:60<d.stops.length
  .rw[yAJ h2];exact⟨λe=>absurd e Cn,λe=>Cj⟩
  rw[yAI h2,aGl rs d.low d.high d.stops [] Ck];exact⟨λe=>⟨h1,Cj,e.1,by simpa using e.2⟩,λe=>⟨e.2.2.1,by simpa using e.2.2.2⟩⟩
 .exact yu
theorem aGo(k:Nat)(lo hg:Int):∀(l:List jA) (pv:Option Int),AF k lo hg pv l=0->∀g∈l,n7 k g.aQ=0
 | [],_,_,g,h=>Co
 |a::t,pv,e,g,h=>by
  unfold AF at e;split at e
  .exact ri
  split at e
  .exact ri
  split at e
  .rename_i h1;exact absurd e h1
  .rename_i h1;rcases yBn.1 h with rfl|h
   .simpa using h1
   .exact aGo k lo hg t _ e g h
theorem aRm{k:Nat}{lo hg:Int}{l:List jA}(h:AE k lo hg l=0):l.length<=12/\∀g∈l,n7 k g.aQ=0:=by
 unfold AE at h;split at h
 .exact ff
 split at h
 .exact ff
 .exact⟨Cj,aGo k lo hg l _ h⟩
theorem aGp(k:Nat):∀(l pre:List dL),AD k pre l=0->∀w∈l,0<=w.aL/\w.aL<k
 | [],_,_,g,h=>Co
 |a::t,pre,e,g,h=>by
  unfold AD at e;split at e
  .exact ri
  rename_i h1;split at e
  .exact ri
  split at e
  .exact ri
  .rcases yBn.1 h with rfl|h
   .omega
   .exact aGp k t _ e g h
theorem aRn{k:Nat}{l:List dL}(h:n7 k l=0):l.length<=8/\∀w∈l,0<=w.aL/\w.aL<k:=by
 unfold n7 at h;split at h
 .exact ff
 .exact⟨Cj,aGp k l _ h⟩
theorem G3(o:aV):bT o=0↔fN o.name=true/\(o.aR.length<=60/\(∀r∈o.aR,pA r=0)/\(o.aR.map bH.name).Nodup)/\((o.aD.length≠0/\o.aD.length<=8)/\(∀d∈o.aD,fN d.name=true/\s6 o.aR d=0)/\(o.aD.map bI.name).Nodup)/\o.aP.length<=40/\(∀c∈o.aP,aAF o.aD.length c)/\(o.aP.map bX.name).Nodup:=by
 unfold bT
 by_cases h1:fN o.name=false
 .rw[yAJ h1];exact⟨λe=>absurd e Cn,λe=>absurd e.1 (by rw[h1];decide)⟩
 rw[yAI h1];have h1':fN o.name=true:=Ei
 by_cases h2:60<o.aR.length
 .rw[yAJ h2];exact⟨λe=>absurd e Cn,λe=>by have:=e.2.1.1;omega⟩
 rw[yAI h2];have hr:=aGk o.aR [] Ck;rw[yAV]at hr
 by_cases h3:s8 [] o.aR=0
 .rw[yAI Ie];have h3':=hr.1 h3;unfold NG
  by_cases h4:o.aD.length=0
  .rw[yAJ h4];exact⟨λe=>absurd e Cn,λe=>absurd h4 e.2.2.1.1.1⟩
  rw[yAI h4]
  by_cases h5:8<o.aD.length
  .rw[yAJ h5];exact⟨λe=>absurd e Cn,λe=>by have:=e.2.2.1.1.2;omega⟩
  rw[yAI h5];have hd:=aGm o.aR o.aD [] Ck;rw[yAV]at hd
  by_cases h6:vV o.aR [] o.aD=0
  .rw[yAI (by simpa using h6)];have zY:=hd.1 h6;unfold CO;have hk:(jM o.aD).length=o.aD.length:=by unfold jM;rw[yAe]
   rw[hk]
   by_cases h7:40<o.aP.length
   .rw[yAJ (.inr h7)];exact⟨λe=>absurd e Cn,λe=>by have:=e.2.2.2.1;omega⟩
   rw[yAI Cj];have hc:CN (jM o.aD)=false:=by
    unfold CN jM;rw[yDE];intro x hx;obtain⟨d,hd,rfl⟩:=yAw.1 hx;simp[((aAG _ _).1 (zY.1 d hd).2).1]
   rw[hc,yAI Cn];have hq:=aGn o.aD.length o.aP [] Ck;rw[yC,yAV]at hq;rw[hq];exact⟨λe=>⟨h1',⟨Cj,h3'⟩,⟨⟨h4,Cj⟩,zY⟩,Cj,e⟩,λe=>e.2.2.2.2⟩
  .rw[yAJ h6];exact⟨λe=>absurd e h6,λe=>absurd (hd.2 e.2.2.1.2) h6⟩
 .rw[yAJ h3];exact⟨λe=>absurd e h3,λe=>absurd (hr.2 e.2.1.2) h3⟩
structure oL (o:aV):Prop where
 name:lV o.name
 aR:∀r∈o.aR,zP r
 aD:∀d∈o.aD,sP d
 aP:∀c∈o.aP,lV c.name
def kL(x:cF):Prop:=lV x.name/\zP x.aL/\sP x.frame/\GU x.stop/\lV x.aZ.name
def lA(o:aV):Prop:=bT o=0/\oL o
theorem kL.dW{x:cF}(h:kL x):dW x:=⟨h.2.1.1,⟨h.2.2.1.2.1,λs hs=>(h.2.2.1.2.2 s hs).1⟩,h.2.2.2.1.1⟩
theorem oL.cL{o:aV}(h:oL o)(h1:o.aR.length<=1000000)(h2:o.aD.length<=1000000)(h3:o.aP.length<=1000000):cL o:=⟨h.name,⟨h.aR,h1⟩,⟨h2,h.aD⟩,h3,h.aP⟩
theorem cL.eF{o:aV}(h:cL o):eF o:=⟨⟨h.2.1.2,λr hr=>(h.2.1.1 r hr).1⟩,⟨h.2.2.1.1,λd hd=>⟨(h.2.2.1.2 d hd).2.1,λs hs=>((h.2.2.1.2 d hd).2.2 s hs).1⟩⟩,h.2.2.2.1⟩
theorem cL.fit{o:aV}(h:cL o):oL o:=⟨h.1,h.2.1.1,h.2.2.1.2,h.2.2.2.2⟩
theorem lA.bounds{o:aV}(h:lA o):o.aR.length<=60/\o.aD.length<=8/\o.aP.length<=40/\∀d∈o.aD,d.stops.length<=60:=by
 obtain⟨_,h2,h3,h4,_⟩:=(G3 o).1 h.1;exact⟨h2.1,h3.1.2,h4,λd hd=>((aAG _ _).1 (h3.2.1 d hd).2).2.1⟩
theorem lA.cL{o:aV}(h:lA o):cL o:=h.2.cL (by have:=h.bounds.1;omega) (by have:=h.bounds.2.1;omega) (by have:=h.bounds.2.2.1;omega)
theorem lA.aQ{o:aV}(h:lA o):∀d∈o.aD,∀s∈d.stops,∀g∈s.aN,∀w∈g.aQ,0<=w.aL/\w.aL<o.aR.length:=λd hd s hs g hg=>by
 obtain⟨_,h2,h3,_⟩:=(G3 o).1 h.1;have h4:=((aAG _ _).1 (h3.2.1 d hd).2).2.2.1 s hs;exact(aRn ((aRm ((aRl _ _ _ _).1 h4).2.2.2).2 g hg)).2
theorem lA.ends{o:aV}(h:lA o):∀c∈o.aP,(0<=c.dK/\c.dK<o.aD.length)/\0<=c.dst/\c.dst<o.aD.length:=λc hc=>by
 obtain⟨_,_,_,_,h4,_⟩:=(G3 o).1 h.1;have:=(h4 c hc).2.1;exact⟨⟨this.1,this.2.1⟩,this.2.2⟩
def uE(o:aV):aV×Int:=if bT o=0 then(o,0)else(gE,bT o)
def fY(wy i:Int)(n:Nat):Prop:=0<=i/\i<(if wy=0 then(n:Int)+1 else n)
def QP(wy i:Int)(r:bH)(o:aV):aV:={ jF wy i o with aR:=bP o.aR wy i.toNat r }
def QQ(wy i:Int)(d:bI)(o:aV):aV:={ qW wy i o with aD:=bP o.aD wy i.toNat d }
def NZ(wy i:Int)(c:bX)(o:aV):aV:={ o with aP:=bP o.aP wy i.toNat c }
def wX(wy i dv:Int)(s:cJ)(o:aV):aV:={ o with aD:=o.aD.set dv.toNat { o.aD.getD dv.toNat cX with stops:=bP (o.aD.getD dv.toNat cX).stops wy i.toNat s } }
open Classical in
noncomputable def lB(o:aV)(x:cF):aV×Int:=
 if gX x≠0 then(gE,gX x)
 else if x.kind=13 then uE { o with name:=x.name }
 else if (x.kind-1)/3=0 then(if fY ((x.kind-1)%3) x.idx o.aR.length then(if xP ((x.kind-1)%3) x.idx o then uE (QP ((x.kind-1)%3) x.idx x.aL o)else(gE,14))else(gE,10))
 else if (x.kind-1)/3=1 then(if fY ((x.kind-1)%3) x.idx o.aD.length then(if ∀c∈o.aP,uC ((x.kind-1)%3) x.idx c=true then uE (QQ ((x.kind-1)%3) x.idx x.frame o)else(gE,14))else(gE,10))
 else if (x.kind-1)/3=2 then(if (0<=x.div/\x.div<o.aD.length)/\fY ((x.kind-1)%3) x.idx (o.aD.getD x.div.toNat cX).stops.length then uE (wX ((x.kind-1)%3) x.idx x.div x.stop o)else(gE,10))
 else(if fY ((x.kind-1)%3) x.idx o.aP.length then uE (NZ ((x.kind-1)%3) x.idx x.aZ o)else(gE,10))
theorem aGq:lV []:=yAF _
theorem aRo:oL gE:=⟨aGq,λr h=>Co,λr h=>Co,λr h=>Co⟩
theorem aRp{wy i:Int}{d:bI}(h:sP d):sP (sN wy i d):=by
 obtain⟨h1,h2,h3⟩:=h;refine⟨h1,by unfold sN;rw[yAe];exact h2,λs hs=>?_⟩;obtain⟨t,ht,rfl⟩:=yAw.1 hs;obtain⟨⟨k1,k2⟩,k3⟩:=h3 t ht;refine⟨⟨by unfold zL;rw[yAe];exact k1,λg hg=>?_⟩,k3⟩;obtain⟨q,hq,rfl⟩:=yAw.1 hg;have:=k2 q hq;unfold wE yU F8 at *;rw[yAe];exact this
theorem GA{α:Type}(l:List α)(wy:Int)(i:Nat)(x:α):(bP l wy i x).length<=l.length+1:=by
 unfold bP;split
 .rw[yAa,yAT,yAt,yBa];omega
 split
 .rw[yAa,yAt,yBa];omega
 .rw[yAD];omega
theorem IS{α:Type}{l:List α}{way:Int}{i:Nat}{x y:α}(h:y∈bP l way i x):y∈l\/y=x:=by
 unfold bP at h;split at h
 .rcases yBh.1 h with h|h
  .exact .inl (yAy h)
  .rcases yBn.1 h with h|h
   .exact .inr h
   .exact .inl (yBd h)
 .split at h
  .exact yb
  .exact yCM h
theorem ME{α:Type}{l:List α}{i:Nat}(h:i<l.length)(d:α):l.getD i d∈l:=by
 rw[yAA,yAh h];exact yAm h
theorem aE8{o:aV}{r:bH}(h:oL o)(hr:zP r)(wy i:Int):oL (QP wy i r o):=⟨h.name,λq hq=>by
 rcases IS hq with hq|rfl
 .exact h.aR q hq
 .exact hr,λd hd=>by
 obtain⟨t,ht,rfl⟩:=yAw.1 hd;exact aRp (h.aD t ht),h.aP⟩
theorem aE9{o:aV}{d:bI}(h:oL o)(hr:sP d)(wy i:Int):oL (QQ wy i d o):=⟨h.name,h.aR,λq hq=>by
 rcases IS hq with hq|rfl
 .exact h.aD q hq
 .exact hr,λc hc=>by
 obtain⟨t,ht,rfl⟩:=yAw.1 hc;exact h.aP t ht⟩
theorem WK{o:aV}{c:bX}(h:oL o)(hr:lV c.name)(wy i:Int):oL (NZ wy i c o):=⟨h.name,h.aR,h.aD,λq hq=>by
 rcases IS hq with hq|rfl
 .exact h.aP q hq
 .exact hr⟩
theorem WJ{o:aV}{s:cJ}(h:oL o)(hr:GU s)(wy i dv:Int)(hd:dv.toNat<o.aD.length)(hl:(o.aD.getD dv.toNat cX).stops.length<=999999):oL (wX wy i dv s o):=by
 have h0:=h.aD _ (ME hd cX);refine⟨h.name,h.aR,λq hq=>?_,h.aP⟩;rcases yCM hq with hq|rfl
 .exact h.aD q hq
 .refine⟨h0.1,yAQ (GA _ _ _ _) Cj,λt ht=>?_⟩;rcases IS ht with ht|rfl
  .exact h0.2.2 t ht
  .exact hr
end
end Go.Kz
namespace Go.Kz
open Go Go.Proofs
section
def Y6(E:aE):Prop:=∀(s:cJ) (τ:List aA),jQ s->aK prog E 0 (.inl 86) [Em.stop.aB s] τ (λp σ'=>SV σ' p s/\τ.length<=σ'.length/\∀id,id<τ.length->σ'[id]?=τ[id]?)
theorem mZ.Y8{σ σ':Jp}{lo:Nat}{d:bI}{p:PD}{iS:Nat}{ss:Jn}{tG:Nat->Nat}{tgs:Jm}{tW:Nat->Nat->Nat}(h:mZ σ lo d p iS ss tG tgs tW)(hr:0<d.stops.length->σ'[iS]?=σ[iS]?)(k:aW oJ σ σ'):mZ σ' lo d p iS ss tG tgs tW:=by
 obtain⟨h1,h2,h3,h4,h5⟩:=h;exact⟨h1,h2,λhp=>⟨(h3 hp).1,(hr hp).trans (h3 hp).2⟩,λs h=>⟨(h4 s h).1,(h4 s h).2.kept k⟩,h5⟩
theorem aFb{σ σ':Jp}{lo:Nat}{o:aV}{p:PD}{iR iD iC:Nat}{ds:Jn}{tS:Nat->Nat}{tss:Jm}{tG:Nat->Nat->Nat}{tgs:Jl}{tW:Nat->Nat->Nat->Nat}(hO:iY σ lo o p iR iD iC ds tS tss tG tgs tW)(d:Nat)(hd:d<o.aD.length)(Q:PD)(l:List cJ)(hQ:SIn σ' Q l)
  (hk:aW oJ σ σ') (hs:∀d',d'≠d->(h:d'<o.aD.length)->0<o.aD[d'].stops.length->σ'[tS d']?=σ[tS d']?) (hr:σ'[iD]?=some (.row 53 5 0 (ds.set d [.str o.aD[d].name,.bool o.aD[d].dO,.int .i64 o.aD[d].low,.int .i64 o.aD[d].high,Q]).flatten)) :
  cO Em.div 5 kO σ' (Go.Kz.hd 5 iD o.aD.length) (o.aD.set d { o.aD[d]with stops:=l }):=by
 have hA:eV (lN Em.div 7 j8 σ') (ds.set d [.str o.aD[d].name,.bool o.aD[d].dO,.int .i64 o.aD[d].low,.int .i64 o.aD[d].high,Q]) (o.aD.set d { o.aD[d]with stops:=l }):=by
  refine eV.of (by rw[yAD,yAD,hO.len]) λi h1 h2=>?_
  rw[yAD]at h1 h2
  by_cases e:i=d
  .subst e;rw[yCT,yCT];exact λτ eC=>RI (d:={ o.aD[i]with stops:=l }) (L:=6) (hQ.bF τ eC)
  .rw[yDM (yAU e),yDM (yAU e)];have e1:=(yA.1 (hO.at_ i h2).1).2;rw[e1];exact((hO.at_ i h2).2.Y8 (λhp=>hs i e h2 hp) hk).wS
 have h0:=cO.row (R:=j8) (R':=kO) (v:=0) Cn hr (.inl rfl) (λ_ h=>.inr h) (λ_ _ _ _ _ _ h=>h) (λg hg=>by
  rcases yCM hg with hg|rfl
  .exact uB hO.len (λi hi=>⟨_,(hO.at_ i hi).1,rfl⟩) g hg
  .rfl) hA
 rw[yAD]at h0;rw[qF Cj];exact h0
variable{E E1 E2 E3 E4 E5 E6:aE}(hU:aJ E)
include hU
theorem aOj(h0:E 42=none)(h1:E 78=some CC)(h2:E 41=some (dI prog E1 41))
  (H2:ClnS E1)
  (h3:E 56=some sQ) (h4:E 80=some (dI prog E2 80)) (U2:aJ E2) (GI:E2 80=none) (GJ:E2 56=some sQ)
  (h5:E 85=some (dI prog E3 85)) (H5:Y3 E3) (h8:E 86=some (dI prog E6 86)) (H8:Y6 E6) (h6:E 79=some (dI prog E4 79)) (H6:GF E4)
  (o:aV) (x:cF) (ho:eF o) (hsh:wW o) (hx:dW x) (hf:gX x=0) (hk:7<=x.kind/\x.kind<=9) (hokr:x.div.toNat<o.aD.length->cL (wX ((x.kind-1)%3) x.idx x.div x.stop o)) :
  aK prog E 0 (.inl 42) [Em.bB.aB o,Em.edit.aB x] [] (λp σ=>(¬((0<=x.div/\x.div<o.aD.length)/\fY ((x.kind-1)%3) x.idx (o.aD.getD x.div.toNat cX).stops.length)/\p=.aH [bA,.int .i64 10])\/(((0<=x.div/\x.div<o.aD.length)/\fY ((x.kind-1)%3) x.idx (o.aD.getD x.div.toNat cX).stops.length)/\∃P1 P2 P3,p=.aH [if bT (wX ((x.kind-1)%3) x.idx x.div x.stop o)=0 then .agg [.str o.name,P1,P2,P3]else bS,.int .i64 (bT (wX ((x.kind-1)%3) x.idx x.div x.stop o))]/\cO Em.aL 6 kM σ P1 o.aR/\cO Em.div 5 kO σ P2 (wX ((x.kind-1)%3) x.idx x.div x.stop o).aD/\cO Em.aZ 5 jH σ P3 o.aP)):=by
 have k1:=λfl σ=>I8 hx fl σ
 rw[hf]at k1;have k3:=λfl σ=>GK (x:=x) ⟨Cj,Cj⟩ fl σ
 have hth:(x.kind-1)/3=2:=Cj;rw[hth]at k3;obtain⟨wy,hwy⟩:=gn ((x.kind-1)%3);have iF:wy=0\/wy=1\/wy=2:=Cj;rw[hwy]at k3 hokr;rw[hwy];have hx3:=hx.2.2;have k2:=(H2 o ho [.box (Em.bB.aB o),.box (Em.edit.aB x),.box (.agg [.str [],.slice 0 [] .full,.slice 0 [] .full,.slice 0 [] .full])]).e0 Ck;obtain⟨p,σ1,k2,⟨iR,iD,iC,ds,tS,tss,tG,tgs,tW,hO⟩,hl1,hk1⟩:=k2;have hp:=hO.p;have b0:=hk1 0 Ck;have b1:=hk1 1 Ck;have b2:=hk1 2 Ck;simp only[yBj,yBz]at b0 b1 b2;obtain⟨w0,z0⟩:=yA.1 b0;obtain⟨w1,z1⟩:=yA.1 b1;obtain⟨w2,z2⟩:=yA.1 b2;have Y9:iY (σ1.set 0 (.box p)) 3 o p iR iD iC ds tS tss tG tgs tW:=hO.aM (σ':=σ1.set 0 (.box p)) (λid y h3 hy=>by
  have h3:3<=id:=h3;rw[yAd Cj];exact hy)
 have k4:=(aOp U2 GI GJ x hk o p (σ1.set 0 (.box p)) 3 iR iD iC ds tS tss tG tgs tW Y9 ho).e0 (λe=>by
  have h:=yAL List.length e;rw[yAD,yAO]at h;omega)
 obtain⟨q4,σ2,k4,⟨L2,bO⟩,hq4⟩:=k4;subst hp;obtain⟨hR,hhR⟩:=gn (Go.Kz.hd 6 iR o.aR.length);obtain⟨hD,hhD⟩:=gn (Go.Kz.hd 5 iD o.aD.length);obtain⟨hC,hhC⟩:=gn (Go.Kz.hd 5 iC o.aP.length);have pR:hR.plain=true:=Da;have pD:hD.plain=true:=Db;have pC:hC.plain=true:=Dc;have cR:hR.cells=[hR]:=Ee;have cD:hD.cells=[hD]:=Ef;have cC:hC.cells=[hC]:=Eg;unfold PD.plain at pR pD pC;unfold PD.cells at cR cD cC;simp only[hhR,hhD,hhC]at hO Y9 k2 k4 bO;have hS:(σ1.set 0 (.box (.agg [.str o.name,hR,hD,hC]))).length=σ1.length:=yAD;have eL:iY σ2 3 o (.agg [.str o.name,hR,hD,hC]) iR iD iC ds tS tss tG tgs tW:=Y9.aM (σ':=σ2) (λid y h3 hy=>by
  rw[bO];exact bG hy)
 have fZ:σ1.length<=σ2.length:=by rw[bO,yAa];omega
 obtain⟨kd,dv,ix,nm,⟨rn,rt,ra,rb,rf,wd⟩,⟨fn,fp,flo,fhi,fs⟩,⟨sn,sa,sb,sg⟩,⟨cn,ca,cb,cs,ct⟩⟩:=x;obtain⟨on,rs,dd,cc⟩:=o;have g0:σ2[0]?=some (.box (.agg [.str on,hR,hD,hC])):=by rw[bO,yAg Cj,yAj w0]
 have g1:=b1;rw[<-yAd (l:=σ1) (i:=0) (a:=.box (.agg [.str on,hR,hD,hC])) Cj,<-yAg (l₂:=L2) (by rw[yAD];omega),<-bO]at g1;have g2:=b2;rw[<-yAd (l:=σ1) (i:=0) (a:=.box (.agg [.str on,hR,hD,hC])) Cj,<-yAg (l₂:=L2) (by rw[yAD];omega),<-bO]at g2;simp only[bZ,dT,aU]at k1 k2 k3 k4 b0 b1 b2 hk hth hwy g1 z0 z1 z2;simp only[bZ,dT,aU];obtain⟨v0,y0⟩:=yA.1 g0;obtain⟨v1,y1⟩:=yA.1 g1;obtain⟨v2,y2⟩:=yA.1 g2;have uH:¬kd=13:=Cj;clear hU;have n2:σ2≠[]:=λe=>Cy
 rcases hq4 with⟨rfl,hbad⟩ | ⟨d,hd,hdv,rfl⟩
 .simp only at hbad;have hneg:¬((0<=dv/\dv<(dd.length:Int))/\fY wy ix (dd.getD dv.toNat cX).stops.length):=λh=>Cj
  by_cases hw0:wy=0
  .subst hw0;refine aK.aG 132 h0 func42 (h:=?_);refine aC Br ?_;exact uj
  .have hz:=h0;refine aK.aG 132 h0 func42 (h:=?_);refine aC (A20 h1 k1 h2 k2 b0 w0 @z0 pR pD pC cR cD cC b1 w1 z1 b2 w2 @z2 (A14 uH h3 k3 h4 k4 @g0 @g1 @v0 y0 @v1 y1 @v2 y2 hw0)) ?_;exact uj
 simp only at hd hdv k4;subst hdv;have hcl:(dd[d]'hd).stops.length<=200:=hsh.2.2.2 _ (yAm hd);have hdq:(d:Int)<(dd.length:Int):=Cj;have hge:dd.getD d cX=dd[d]:=by rw[yAA,yAh hd];rfl
 have hed:wX wy ix (d:Int) ⟨sn,sa,sb,sg⟩ ⟨on,rs,dd,cc⟩=⟨on,rs,dd.set d { dd[d]with stops:=bP dd[d].stops wy ix.toNat ⟨sn,sa,sb,sg⟩ },cc⟩:=by
  unfold wX;simp only[yBp,hge]
 have hokr:=hokr hd;simp only[yBp,hge]at hokr ⊢;rw[hed]at hokr ⊢;have hpos:(0:Int)<=(d:Int):=Cj;simp only[hpos,hdq,yBy,yCe];obtain⟨sd,hsd⟩:=gn (dd[d]);have hDr:hD=.aO iD 0 0 dd.length 5:=by rw[<-hhD];exact qF (show 0<dd.length by omega)
 subst hDr;have xk:jD prog 32 (.aO iD 0 0 dd.length 5) (.int .i64 d)=some (.dG iD 0 (d*5)):=by
  simp[jT,hd]
 by_cases hw0:wy=0
 .subst hw0;unfold fY at *;simp only[yAK]
  by_cases i1:ix<0
  .have hz:=h0;refine aK.aG 132 h0 func42 (h:=?_);refine aC (A20 h1 k1 h2 k2 b0 w0 @z0 pR pC cR cC b1 w1 z1 b2 w2 @z2 uH h3 (A13 k3 h4 k4 @g0 @g1 @v0 y0 @v1 y1 @v2 y2 xk @i1)) ?_;exact gj
  by_cases i2:(dd[d].stops.length:Int)+1<=ix
  .have hz:=h0;refine aK.aG 132 h0 func42 (h:=?_);refine aC Cc ?_;exact gj
  have hwi:(0:Int)=0/\ix.toNat<=dd[d].stops.length\/((0:Int)=1\/(0:Int)=2)/\ix.toNat<dd[d].stops.length:=.inl ⟨rfl,Cj⟩;have hix:0<=ix/\ix<(dd[d].stops.length:Int)+1:=⟨Cj,Cj⟩;obtain⟨i,rfl⟩:∃i:Nat,ix=i:=⟨ix.toNat,Cj⟩;rw[yBp]at hokr hwi ⊢;refine aK.aG 132 h0 func42 (h:=?_);refine aC Cc ?_;have hlp:=fZ;obtain⟨hsz,hrow,hAl⟩:=aFc ((eL.at_ d hd).2);have hDrow:=(eL.row (show 0<dd.length by omega)).2;have hDlo:=(eL.row (show 0<dd.length by omega)).1;have hDg:=(eL.at_ d hd).1;have uI:∀g∈ds,g.length=5:=uB eL.len λi hi=>⟨_,(eL.at_ i hi).1,rfl⟩
  have hdl:ds.length=dd.length:=eL.len;have n2':=n2;have k8:=(H8 ⟨sn,sa,sb,sg⟩ σ2 hx3).e0 n2;obtain⟨c,rN,k8,hDV,mC,fV⟩:=k8;have uJ:rN≠[]:=λe=>by rw[e]at mC;exact n2 (yAf (yCZ.1 mC))
  have sU:=(fV 0 v0).trans g0;have pP:=(fV 1 v1).trans g1;have CD:=(fV 2 v2).trans g2;have hDl:iD<σ2.length:=(yA.1 hDrow).1;have ucD:=(fV iD hDl).trans hDrow;have ZA:∀R,aW R σ2 rN:=λR id t n v cs _ hy=>(fV id (yA.1 hy).1).trans hy
  have k5:=(H5 rN (tS d) (tss d) c dd[d].stops 0 i ⟨sn,sa,sb,sg⟩ hcl hsz (λhp=>(fV _ (yA.1 (hrow hp)).1).trans (hrow hp)) (hAl.imp λa b h=>h.aM (ZA _)) hDV hwi uJ).e0 uJ;obtain⟨Q,bR,k5,lQ,jI,bU⟩:=k5;have hne:0<dd[d].stops.length->iD≠tS d:=λhp e=>by
   have h1:=hrow hp;rw[<-e,hDrow]at h1;exact mg
  have hno:∀(j:Nat) (b:PD),σ2[j]?=some (.box b)->0<dd[d].stops.length->j≠tS d:=λj b hj hp e=>by
   have h1:=hrow hp;rw[<-e,hj]at h1;cases h1
  have s0:=bU 0 _ sU (hno 0 _ g0);have s1:=bU 1 _ pP (hno 1 _ g1);have s2:=bU 2 _ CD (hno 2 _ g2);have sD:=bU iD _ ucD hne;obtain⟨f0,d0⟩:=yA.1 s0;obtain⟨f2,d2⟩:=yA.1 s2;obtain⟨fD,dD⟩:=yA.1 sD;obtain⟨vD,yD⟩:=yA.1 hDrow;have pQ:=lQ.plain;have cQ:=lQ.cells;unfold PD.plain at pQ;unfold PD.cells at cQ;have o4:=pT (B:=[iD,1]) h5 k5 jI (λid hi h=>by
   simp only[yBn,yBN,yBO]at hi;rcases hi with rfl|rfl
   .rw[sD,ucD]
   .rw[s1,pP])
  have uK:=pT (B:=[iD,1]) h8 k8 mC (λid _ h=>fV id h);simp only[pZ,aU]at uK;have hflat:=lF ds uI;have hgd:=(yA.1 hDg).2;have hat:=qX (sz:=5) ds d Cj uI;have hfs:=wY (sz:=5) (new:=[Q]) (j:=3+1) Ck ds d Cj uI;rw[hgd]at hat hfs;have uL:(ds.flatten.drop (d*5+4)).take 1=[Go.Kz.hd 4 (tS d) dd[d].stops.length]:=by
   exact Am
  have hset:dF [PD.str dd[d].name,.bool dd[d].dO,.int .i64 dd[d].low,.int .i64 dd[d].high,Go.Kz.hd 4 (tS d) dd[d].stops.length] (3+1) [Q]=[.str dd[d].name,.bool dd[d].dO,.int .i64 dd[d].low,.int .i64 dd[d].high,Q]:=rfl;rw[hset]at hfs;have fG:d*5+4+1<=ds.flatten.length:=Cj;obtain⟨wZ,xW⟩:=gn (ds.flatten);rw[xW]at hDrow ucD sD uL hfs fG yD dD;obtain⟨nZ,hhS⟩:=gn (Go.Kz.hd 4 (tS d) dd[d].stops.length);have pS:nZ.plain=true:=Gc;have cS:nZ.cells=[nZ]:=Gd;unfold PD.plain at pS;unfold PD.cells at cS;rw[hhS]at uL o4;have I9:wZ[d*5+4]' Cj=nZ:=by
   exact gh
  have GL:=hfs;simp only[dF,yAT,yAO,yAp,Nat.reduceAdd,yAi,yBs,yAV,yBX]at GL;refine Wp.aFd h8 DZ n2 [(3,1),(11,iD)] [iD,1] [some iD,some 1] Cp ⟨⟨_,rfl,rfl⟩,⟨_,rfl,rfl⟩,trivial⟩ Cl Ek ?_;refine T8 Cd ?_;apply SQ.nil;obtain⟨ds',GM⟩:∃x,ds.set d [.str dd[d].name,.bool dd[d].dO,.int .i64 dd[d].low,.int .i64 dd[d].high,Q]=x:=⟨_,rfl⟩;rw[GM]at GL
  try rw[GM]
  obtain⟨cV,zY⟩:∃s,bR.set iD (.row 53 5 0 ds'.flatten)=s:=⟨_,rfl⟩;rw[zY];have g6:∀j,j≠iD->cV[j]?=bR[j]?:=λj hj=>by rw[<-zY,yAd (yAU hj)]
  have r6:cV[iD]?=some (.row 53 5 0 ds'.flatten):=by rw[<-zY];exact yAj fD
  have kf:∀(R:TypeId->Prop),(∀t,R t->t≠53/\t≠56)->aW R σ2 cV:=λR hR id t n v cs ht hy=>by
   exact ic
  obtain⟨hi1,hi2,qY⟩:=sS eL hsh;have m1:=(qC.qE hi1).aM (kf kM (λt h=>Df));have m3:=(o0.qE qY).aM (kf jH (λt h=>Df));have m2:=aFb (σ':=cV) eL d hd Q (bP dd[d].stops 0 i ⟨sn,sa,sb,sg⟩) ⟨lQ.plain,lQ.cells,λτ eC=>lQ.bF τ (aW.trans (λid t n v cs ht hy=>by
    rw[g6 id (λe=>by rw[e,sD]at hy;have:=(aA.row.inj (yAR hy)).1;rcases ht with h|h|h<;>rw[h]at this<;>exact absurd this Cn)];exact hy) eC)⟩ (kf oJ (λt h=>by rcases h with h|h<;>rw[h]<;>decide)) (λd' hne h hp=>by
     have jE:=((eL.at_ d' h).2.row hp).2;rw[g6 _ (λe=>by rw[e,hDrow]at jE;exact absurd (aA.row.inj (yAR jE)).1 Cn),jE];exact bU _ _ ((fV _ (yA.1 jE).1).trans jE) (λjW e=>hne (eL.ZC d' d h hd hp jW e))) (by rw[GM];exact r6)
  simp only at m1 m2 m3;rw[hhR]at m1;rw[show Go.Kz.hd 5 iD dd.length=.aO iD 0 0 dd.length 5 from qF Cj]at m2;rw[hhC]at m3;have n6:cV≠[]:=λe=>by rw[e]at r6;cases r6
  have k6:=(H6 _ on hR (.aO iD 0 0 dd.length 5) hC rs _ cc m1 m2 m3 hokr n6).e0 n6;obtain⟨q,eE,k6,rfl,L5,rfl⟩:=k6;obtain⟨e,he⟩:=gn (bT ⟨on,rs,dd.set d { dd[d]with stops:=bP dd[d].stops 0 i ⟨sn,sa,sb,sg⟩ },cc⟩);exact bp
 .unfold fY at *;simp only[hw0,yAN]
  by_cases i1:ix<0
  .have hz:=h0;refine aK.aG 132 h0 func42 (h:=?_);refine aC (A20 h1 k1 h2 k2 b0 w0 @z0 pR pC cR cC b1 w1 z1 b2 w2 @z2 uH h3 (A14 k3 h4 k4 @g0 @g1 @v0 y0 @v1 y1 @v2 y2 xk @i1 hw0)) ?_;exact gj
  by_cases i2:(dd[d].stops.length:Int)<=ix
  .have hz:=h0;refine aK.aG 132 h0 func42 (h:=?_);refine aC Ce ?_;exact gj
  have hwi:wy=0/\ix.toNat<=dd[d].stops.length\/(wy=1\/wy=2)/\ix.toNat<dd[d].stops.length:=Cj;have hix:0<=ix/\ix<(dd[d].stops.length:Int):=Cj;obtain⟨i,rfl⟩:∃i:Nat,ix=i:=⟨ix.toNat,Cj⟩;rw[yBp]at hokr hwi ⊢;refine aK.aG 132 h0 func42 (h:=?_);refine aC Ce ?_;have hlp:=fZ;obtain⟨hsz,hrow,hAl⟩:=aFc ((eL.at_ d hd).2);have hDrow:=(eL.row (show 0<dd.length by omega)).2;have hDlo:=(eL.row (show 0<dd.length by omega)).1;have hDg:=(eL.at_ d hd).1;have uI:∀g∈ds,g.length=5:=uB eL.len λi hi=>⟨_,(eL.at_ i hi).1,rfl⟩
  have hdl:ds.length=dd.length:=eL.len;have n2':=n2;have k8:=(H8 ⟨sn,sa,sb,sg⟩ σ2 hx3).e0 n2;obtain⟨c,rN,k8,hDV,mC,fV⟩:=k8;have uJ:rN≠[]:=λe=>by rw[e]at mC;exact n2 (yAf (yCZ.1 mC))
  have sU:=(fV 0 v0).trans g0;have pP:=(fV 1 v1).trans g1;have CD:=(fV 2 v2).trans g2;have hDl:iD<σ2.length:=(yA.1 hDrow).1;have ucD:=(fV iD hDl).trans hDrow;have ZA:∀R,aW R σ2 rN:=λR id t n v cs _ hy=>(fV id (yA.1 hy).1).trans hy
  have k5:=(H5 rN (tS d) (tss d) c dd[d].stops wy i ⟨sn,sa,sb,sg⟩ hcl hsz (λhp=>(fV _ (yA.1 (hrow hp)).1).trans (hrow hp)) (hAl.imp λa b h=>h.aM (ZA _)) hDV hwi uJ).e0 uJ;obtain⟨Q,bR,k5,lQ,jI,bU⟩:=k5;have hne:0<dd[d].stops.length->iD≠tS d:=λhp e=>by
   have h1:=hrow hp;rw[<-e,hDrow]at h1;exact mg
  have hno:∀(j:Nat) (b:PD),σ2[j]?=some (.box b)->0<dd[d].stops.length->j≠tS d:=λj b hj hp e=>by
   have h1:=hrow hp;rw[<-e,hj]at h1;cases h1
  have s0:=bU 0 _ sU (hno 0 _ g0);have s1:=bU 1 _ pP (hno 1 _ g1);have s2:=bU 2 _ CD (hno 2 _ g2);have sD:=bU iD _ ucD hne;obtain⟨f0,d0⟩:=yA.1 s0;obtain⟨f2,d2⟩:=yA.1 s2;obtain⟨fD,dD⟩:=yA.1 sD;obtain⟨vD,yD⟩:=yA.1 hDrow;have pQ:=lQ.plain;have cQ:=lQ.cells;unfold PD.plain at pQ;unfold PD.cells at cQ;have o4:=pT (B:=[iD,1]) h5 k5 jI (λid hi h=>by
   simp only[yBn,yBN,yBO]at hi;rcases hi with rfl|rfl
   .rw[sD,ucD]
   .rw[s1,pP])
  have uK:=pT (B:=[iD,1]) h8 k8 mC (λid _ h=>fV id h);simp only[pZ,aU]at uK;have hflat:=lF ds uI;have hgd:=(yA.1 hDg).2;have hat:=qX (sz:=5) ds d Cj uI;have hfs:=wY (sz:=5) (new:=[Q]) (j:=3+1) Ck ds d Cj uI;rw[hgd]at hat hfs;have uL:(ds.flatten.drop (d*5+4)).take 1=[Go.Kz.hd 4 (tS d) dd[d].stops.length]:=by
   exact Am
  have hset:dF [PD.str dd[d].name,.bool dd[d].dO,.int .i64 dd[d].low,.int .i64 dd[d].high,Go.Kz.hd 4 (tS d) dd[d].stops.length] (3+1) [Q]=[.str dd[d].name,.bool dd[d].dO,.int .i64 dd[d].low,.int .i64 dd[d].high,Q]:=rfl;rw[hset]at hfs;have fG:d*5+4+1<=ds.flatten.length:=Cj;obtain⟨wZ,xW⟩:=gn (ds.flatten);rw[xW]at hDrow ucD sD uL hfs fG yD dD;obtain⟨nZ,hhS⟩:=gn (Go.Kz.hd 4 (tS d) dd[d].stops.length);have pS:nZ.plain=true:=Gc;have cS:nZ.cells=[nZ]:=Gd;unfold PD.plain at pS;unfold PD.cells at cS;rw[hhS]at uL o4;have I9:wZ[d*5+4]' Cj=nZ:=by
   exact gh
  have GL:=hfs;simp only[dF,yAT,yAO,yAp,Nat.reduceAdd,yAi,yBs,yAV,yBX]at GL;refine Wp.aFd h8 DZ n2 [(3,1),(11,iD)] [iD,1] [some iD,some 1] Cp ⟨⟨_,rfl,rfl⟩,⟨_,rfl,rfl⟩,trivial⟩ Cl Ek ?_;refine T8 Cd ?_;apply SQ.nil;obtain⟨ds',GM⟩:∃x,ds.set d [.str dd[d].name,.bool dd[d].dO,.int .i64 dd[d].low,.int .i64 dd[d].high,Q]=x:=⟨_,rfl⟩;rw[GM]at GL
  try rw[GM]
  obtain⟨cV,zY⟩:∃s,bR.set iD (.row 53 5 0 ds'.flatten)=s:=⟨_,rfl⟩;rw[zY];have g6:∀j,j≠iD->cV[j]?=bR[j]?:=λj hj=>by rw[<-zY,yAd (yAU hj)]
  have r6:cV[iD]?=some (.row 53 5 0 ds'.flatten):=by rw[<-zY];exact yAj fD
  have kf:∀(R:TypeId->Prop),(∀t,R t->t≠53/\t≠56)->aW R σ2 cV:=λR hR id t n v cs ht hy=>by
   exact ic
  obtain⟨hi1,hi2,qY⟩:=sS eL hsh;have m1:=(qC.qE hi1).aM (kf kM (λt h=>Df));have m3:=(o0.qE qY).aM (kf jH (λt h=>Df));have m2:=aFb (σ':=cV) eL d hd Q (bP dd[d].stops wy i ⟨sn,sa,sb,sg⟩) ⟨lQ.plain,lQ.cells,λτ eC=>lQ.bF τ (aW.trans (λid t n v cs ht hy=>by
    rw[g6 id (λe=>by rw[e,sD]at hy;have:=(aA.row.inj (yAR hy)).1;rcases ht with h|h|h<;>rw[h]at this<;>exact absurd this Cn)];exact hy) eC)⟩ (kf oJ (λt h=>by rcases h with h|h<;>rw[h]<;>decide)) (λd' hne h hp=>by
     have jE:=((eL.at_ d' h).2.row hp).2;rw[g6 _ (λe=>by rw[e,hDrow]at jE;exact absurd (aA.row.inj (yAR jE)).1 Cn),jE];exact bU _ _ ((fV _ (yA.1 jE).1).trans jE) (λjW e=>hne (eL.ZC d' d h hd hp jW e))) (by rw[GM];exact r6)
  simp only at m1 m2 m3;rw[hhR]at m1;rw[show Go.Kz.hd 5 iD dd.length=.aO iD 0 0 dd.length 5 from qF Cj]at m2;rw[hhC]at m3;have n6:cV≠[]:=λe=>by rw[e]at r6;cases r6
  have k6:=(H6 _ on hR (.aO iD 0 0 dd.length 5) hC rs _ cc m1 m2 m3 hokr n6).e0 n6;obtain⟨q,eE,k6,rfl,L5,rfl⟩:=k6;obtain⟨e,he⟩:=gn (bT ⟨on,rs,dd.set d { dd[d]with stops:=bP dd[d].stops wy i ⟨sn,sa,sb,sg⟩ },cc⟩);exact bp
end
theorem RH{σ:Jp}{on:Jr}{P1 P2 P3:PD}{rs:List bH}{dd:List bI}{cc:List bX}(l1:cO Em.aL 6 kM σ P1 rs)(l2:cO Em.div 5 kO σ P2 dd)(l3:cO Em.aZ 5 jH σ P3 cc)(K:Nat) :
  (bF σ (K+9) (.agg [.str on,P1,P2,P3])).strip=Em.bB.aB ⟨on,rs,dd,cc⟩/\(bF σ (K+9) (.agg [.str on,P1,P2,P3])).bY=true:=by
 obtain⟨a1,a2⟩:=l1.bF σ (λ_ _ _ _ _ _ h=>h) K;obtain⟨b1,b2⟩:=l2.bF σ (λ_ _ _ _ _ _ h=>h) K;obtain⟨c1,c2⟩:=l3.bF σ (λ_ _ _ _ _ _ h=>h) K;refine⟨?_,?_⟩
 .show PD.agg [PD.strip (.str on),PD.strip (bF σ (K+8) P1),PD.strip (bF σ (K+8) P2),PD.strip (bF σ (K+8) P3)]=_
  rw[a1,b1,c1];rfl
 .show(PD.bY (.str on)&&(PD.bY (bF σ (K+8) P1)&&(PD.bY (bF σ (K+8) P2)&&(PD.bY (bF σ (K+8) P3)&&true))))=true
  rw[a2,b2,c2];rfl
theorem GH{Eo:aE}{σ:Jp}{on:Jr}{P1 P2 P3:PD}{rs:List bH}{dd:List bI}{cc:List bX}(l1:cO Em.aL 6 kM σ P1 rs)(l2:cO Em.div 5 kO σ P2 dd)(l3:cO Em.aZ 5 jH σ P3 cc)(h:aI prog Eo 27 [Em.bB.aB ⟨on,rs,dd,cc⟩] (i64.aB (bT ⟨on,rs,dd,cc⟩)))(fl:Nat) :
  qB (pM prog Eo 27) fl [.agg [.str on,P1,P2,P3]] σ=some (.int .i64 (bT ⟨on,rs,dd,cc⟩),σ):=by
 obtain⟨e1,e2⟩:=RH (on:=on) l1 l2 l3 11;have e3:pM prog Eo 27 [bF σ 20 (.agg [.str on,P1,P2,P3])]=some (.int .i64 (bT ⟨on,rs,dd,cc⟩)):=aOl (by rw[List.map_singleton,e1];exact h) rfl;unfold qB;simp only[List.map_singleton,PD.fW,e2,yDp,yAK,e3]
theorem aNT{E Eo:aE}(h0:E 79=none)(h1:E 27=some (qB (pM prog Eo 27)))(ho:∀o,cL o->aI prog Eo 27 [Em.bB.aB o] (i64.aB (bT o))):GF E:=by
 intro σ on P1 P2 P3 rs dd cc l1 l2 l3 hok eQ;have k1:=λL:List aA=>GH (on:=on) (l1.aM (aW.app _ σ L)) (l2.aM (aW.app _ σ L)) (l3.aM (aW.app _ σ L)) (ho _ hok)
 have k0:=GH (on:=on) l1 l2 l3 (ho _ hok);obtain⟨e,he⟩:=gn (bT ⟨on,rs,dd,cc⟩);rw[he]at k0;simp only[he]at k1 ⊢;have p1:=l1.plain;have p2:=l2.plain;have p3:=l3.plain;have c1:=l1.cells;have c2:=l2.cells;have c3:=l3.cells;unfold PD.plain at p1 p2 p3;unfold PD.cells at c1 c2 c3;refine aK.aG 12 h0 func79 (h:=?_);apply WL.tH Cp;apply SL.box (p:=.agg [.str on,P1,P2,P3]) (hw:=Wt.i rfl) (hx:=rfl) (hp:=by simp[p1,p2,p3]) (hr:=Ns.i rfl) (hn:=Ns.i rfl) (hf:=Fr.i rfl);refine oS p1 ?_;apply SQ.nil
 by_cases hz:e=0
 .subst hz;refine aC (A9 h1 k0 k1 p1 p2 p3 c1 c2 c3) ?_;exact⟨.aH [.agg [.str on,P1,P2,P3],.int .i64 0],σ++[.box (.agg [.str on,P1,P2,P3]),.box (.agg [.str on,P1,P2,P3])],by simp[bQ],by rw[yAJ rfl],_,rfl⟩
 .refine aC (A10 h1 k0 k1 @hz p1 p2 p3 c1 c2 c3) ?_;exact⟨.aH [bS,.int .i64 e],σ++[.box (.agg [.str on,P1,P2,P3]),.box bS],by simp[bQ,bS],Gg,_,rfl⟩
noncomputable def MJ:Nat->List PD->List aA->Option (PD×List aA):=entry (wF i64 i64 i64 Em.aOm λn w i=>dY (-1000000000<=n/\n<=1000000000) (some (fF n w i)))
theorem aFa(w i n:Int)(h:-1000000000<=n/\n<=1000000000)(fl:Nat)(σ:List aA):MJ fl [.int .i64 n,.int .i64 w,.int .i64 i] σ=some (.aH [.int .i64 (fF n w i).1,.bool (fF n w i).2],σ):=by
 have e:∀z:Int,i64.dec (.int .i64 z)=some z:=λz=>Em.cT (i64.str z)
 unfold MJ entry wF;simp only[e,fM h];rfl
theorem aOb{E:aE}(hU:aJ E)(h0:E 86=none)(h1:E 118=some (iX 92 3))(h2:E 119=some (iX 89 2)):Y6 E:=λs τ hs=>
 (YZ hU h0 h1 h2 s hs τ).mono λ_ _ ⟨⟨_,_,_,h⟩,a,b⟩=>⟨h.sv,a,b⟩
theorem aOd{E E0:aE}(hU:aJ E)(hU0:aJ E0)(h0:E 77=none)(h1:E 110=some (iX 56 4))(h2:E 86=some (dI prog E0 86))
  (k0:E0 86=none) (k1:E0 118=some (iX 92 3)) (k2:E0 119=some (iX 89 2)):Y7 E DV:=λd τ hs=>
 (aE7 hU h0 h1 h2 (λs hs τ=>YZ hU0 k0 k1 k2 s hs τ) d hs τ).mono λ_ _ ⟨⟨_,_,_,_,_,h⟩,a,b⟩=>⟨h.dv,a,b⟩
theorem aN7{E:aE}(hU:aJ E)(h0:E 81=none)(h1:E 111=some MJ):Y4 E:=λway index o p aS lo iR iD iC ds tS tss tG tgs tW hO hl ho hb hw=>aOn hU h0 h1 way index (λn hn=>aFa way index n hn) o p aS lo iR iD iC ds tS tss tG tgs tW hO hl ho hb hw
theorem aN9{E:aE}(hU:aJ E)(h0:E 83=none)(h1:E 111=some MJ):Y5 E:=λway index o p aS lo iR iD iC ds tS tss tG tgs tW hO hl ho hb=>aOo hU h0 h1 way index (λn hn=>aFa way index n hn) o p aS lo iR iD iC ds tS tss tG tgs tW hO hl ho hb
theorem IT{E:aE}{f:FuncId}{args:Jq}{p:PD}{σ:Jp}(h:nQ prog E 0 (.inl f) args [] p σ){on:Jr}{P1 P2 P3:PD}{rs:List bH}{dd:List bI}{cc:List bX}(hp:p=.aH [if bT ⟨on,rs,dd,cc⟩=0 then .agg [.str on,P1,P2,P3]else bS,.int .i64 (bT ⟨on,rs,dd,cc⟩)])
  (l1:cO Em.aL 6 kM σ P1 rs) (l2:cO Em.div 5 kO σ P2 dd) (l3:cO Em.aZ 5 jH σ P3 cc):RunT prog E f args ((Em.bB.nT i64).aB (uE ⟨on,rs,dd,cc⟩)):=by
 refine⟨20,p,σ,h,?_,?_⟩
 .subst hp;unfold uE
  by_cases hz:bT ⟨on,rs,dd,cc⟩=0
  .rw[yAJ hz,yAJ hz,hz];show PD.aH [PD.strip (bF σ 19 (.agg [.str on,P1,P2,P3])),.int .i64 0]=_
   rw[(RH l1 l2 l3 10).1];rfl
  .rw[yAI hz,yAI hz];rfl
 .subst hp
  by_cases hz:bT ⟨on,rs,dd,cc⟩=0
  .rw[yAJ hz];show(PD.bY (bF σ 19 (.agg [.str on,P1,P2,P3]))&&(true&&true))=true
   rw[(RH l1 l2 l3 10).2];rfl
  .rw[yAI hz];rfl
theorem xS{E:aE}{f:FuncId}{args:Jq}{p:PD}{σ:Jp}(h:nQ prog E 0 (.inl f) args [] p σ){e:Int}(hp:p=.aH [bA,.int .i64 e]):RunT prog E f args ((Em.bB.nT i64).aB (gE,e)):=⟨20,p,σ,h,by rw[hp];rfl,by rw[hp];rfl⟩
theorem lA.short{o:aV}(h:lA o):wW o:=by
 obtain⟨h1,h2,h3,h4⟩:=h.bounds;exact⟨Cj,Cj,Cj,λd hd=>yAQ (h4 d hd) Cn⟩
end Go.Kz
