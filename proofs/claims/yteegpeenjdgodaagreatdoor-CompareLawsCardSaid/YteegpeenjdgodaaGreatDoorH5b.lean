/- Steps of the proof. -/
import Derived.Test.YteegpeenjdgodaaGreatDoorH5
set_option linter.all false
set_option maxHeartbeats 40000000
set_option maxRecDepth 100000
open Go.Proofs.Tryz
namespace Go.Kz
open Go Go.Proofs
section
theorem IF(ns:List (List UInt8))(nm:List UInt8):j9 ns nm=true↔nm∈ns:=by simp[j9]
theorem QK{α:Type}{ns t:List α}{x:α}(h:(ns++x::t).Nodup):x∉ns:=λhx=>(yCB.1 h).2.2 x hx x (yBc ..) rfl
theorem aFs:∀(l:List bB) (ns:List (List UInt8)),ns.Nodup->(rR ns l=0↔(∀r∈l,nI r=0)/\(ns++l.map bB.name).Nodup)
 | [],ns,h=>by simp[rR,h]
 |r::t,ns,h=>by
  unfold rR
  by_cases h1:nI r=0
  .rw[yAI Ca]
   by_cases h2:j9 ns r.name=true
   .rw[yAJ h2];exact⟨λe=>absurd e Al,λe=>absurd ((IF _ _).1 h2) (QK (t:=t.map bB.name) e.2)⟩
   .rw[yAI h2];have hs:r.name∉ns:=λe=>h2 ((IF _ _).2 e)
    have hn:(ns++[r.name]).Nodup:=by
     rw[yCB];exact gm
    rw[aFs t _ hn];simp[h1]
  .exact uz
theorem aFt(rs:List bB)(lo hg:Int):∀(l:List bW) (ns:List (List UInt8)),ns.Nodup->(yL rs lo hg ns l=0↔(∀r∈l,rP rs lo hg r=0)/\(ns++l.map bW.name).Nodup)
 | [],ns,h=>by simp[yL,h]
 |r::t,ns,h=>by
  unfold yL
  by_cases h1:rP rs lo hg r=0
  .rw[yAI Ca]
   by_cases h2:j9 ns r.name=true
   .rw[yAJ h2];exact⟨λe=>absurd e Al,λe=>absurd ((IF _ _).1 h2) (QK (t:=t.map bW.name) e.2)⟩
   .rw[yAI h2];have hs:r.name∉ns:=λe=>h2 ((IF _ _).2 e)
    have hn:(ns++[r.name]).Nodup:=by
     rw[yCB];exact gm
    rw[aFt rs lo hg t _ hn];simp[h1]
  .exact uz
theorem aFu(rs:List bB):∀(l:List bD) (ns:List (List UInt8)),ns.Nodup->(tZ rs ns l=0↔(∀r∈l,eL r.name=true/\oA rs r=0)/\(ns++l.map bD.name).Nodup)
 | [],ns,h=>by simp[tZ,h]
 |r::t,ns,h=>by
  unfold tZ
  by_cases h0:eL r.name=false
  .rw[yAJ h0];exact⟨λe=>absurd e Al,λe=>absurd (e.1 r (yBc ..)).1 (by rw[h0];decide)⟩
  rw[yAI h0];have h0':eL r.name=true:=by simpa using h0
  by_cases h2:j9 ns r.name=true
  .rw[yAJ h2];exact⟨λe=>absurd e Al,λe=>absurd ((IF _ _).1 h2) (QK (t:=t.map bD.name) e.2)⟩
  .rw[yAI h2];have hs:r.name∉ns:=λe=>h2 ((IF _ _).2 e)
   by_cases h1:oA rs r=0
   .rw[yAI Ca];have hn:(ns++[r.name]).Nodup:=by
     rw[yCB];exact gm
    rw[aFu rs t _ hn];simp[h1,h0']
   .rw[yAJ h1];exact⟨λe=>absurd e h1,λe=>absurd (e.1 r (yBc ..)).2 h1⟩
def QL(k:Nat)(c:bP):Prop:=eL c.name=true/\(0<=c.dR/\c.dR<k/\0<=c.dst/\c.dst<k)/\(-127<=c.shift/\c.shift<=127)/\¬(c.dR=c.dst/\c.shift=0)
theorem aFv(k:Nat):∀(l pre:List bP),(pre.map bP.name).Nodup->(sX k pre l=0↔(∀c∈l,QL k c)/\(pre.map bP.name++l.map bP.name).Nodup)
 | [],pre,h=>by simp[sX,h]
 |c::t,pre,h=>by
  unfold sX
  by_cases h0:eL c.name=false
  .rw[yAJ h0];exact⟨λe=>absurd e Al,λe=>absurd (e.1 c (yBc ..)).1 (by rw[h0];decide)⟩
  rw[yAI h0];have h0':eL c.name=true:=by simpa using h0
  have hm:pre.any (jA c.name)=true↔c.name∈pre.map bP.name:=by
   simp[jA]
  by_cases h2:pre.any (jA c.name)=true
  .rw[yAJ h2];exact⟨λe=>absurd e Al,λe=>absurd (hm.1 h2) (QK (t:=t.map bP.name) e.2)⟩
  rw[yAI h2];have hs:c.name∉pre.map bP.name:=λe=>h2 (hm.2 e)
  by_cases h3:c.dR<0\/(k:Int)<=c.dR\/c.dst<0\/(k:Int)<=c.dst
  .rw[yAJ h3];exact⟨λe=>absurd e Al,λe=>by have:=(e.1 c (yBc ..)).2.1;omega⟩
  rw[yAI h3]
  by_cases h4:c.shift < -127\/127<c.shift
  .rw[yAJ h4];exact⟨λe=>absurd e Al,λe=>by have:=(e.1 c (yBc ..)).2.2.1;omega⟩
  rw[yAI h4]
  by_cases h5:c.dR=c.dst/\c.shift=0
  .rw[yAJ h5];exact⟨λe=>absurd e Al,λe=>absurd h5 (e.1 c (yBc ..)).2.2.2⟩
  rw[yAI h5];have hn:((pre++[c]).map bP.name).Nodup:=by
   rw[yAH,yCB];exact gm
  rw[aFv k t _ hn];have hc:QL k c:=⟨h0',Ah,Ah,h5⟩;simp[hc]
theorem aQD(rs:List bB)(lo hg:Int)(s:bW):rP rs lo hg s=0↔wW rs lo hg=0/\eL s.name=true/\rQ s.num s.den=0/\yI rs.length lo hg s.aU=0:=by
 unfold rP
 by_cases h1:wW rs lo hg=0
 .rw[yAI Ca]
  by_cases h2:eL s.name=false
  .rw[yAJ h2];exact⟨λe=>absurd e Al,λe=>absurd e.2.1 (by rw[h2];decide)⟩
  rw[yAI h2]
  by_cases h3:rQ s.num s.den=0
  .rw[yAI Fg];exact⟨λe=>⟨h1,by simpa using h2,h3,e⟩,λe=>e.2.2.2⟩
  .rw[yAJ h3];exact⟨λe=>absurd e h3,λe=>absurd e.2.2.1 h3⟩
 .exact vw
theorem AW(rs:List bB)(d:bD):oA rs d=0↔mE d.low d.high=0/\d.stops.length<=60/\(∀s∈d.stops,rP rs d.low d.high s=0)/\(d.stops.map bW.name).Nodup:=by
 unfold oA
 by_cases h1:mE d.low d.high=0
 .rw[yAI Ca]
  by_cases h2:60<d.stops.length
  .rw[yAJ h2];exact⟨λe=>absurd e Al,λe=>Ah⟩
  rw[yAI h2,aFt rs d.low d.high d.stops [] Ai];exact⟨λe=>⟨h1,Ah,e.1,by simpa using e.2⟩,λe=>⟨e.2.2.1,by simpa using e.2.2.2⟩⟩
 .exact vw
theorem aFw(k:Nat)(lo hg:Int):∀(l:List iU) (pv:Option Int),yJ k lo hg pv l=0->∀g∈l,mT k g.aX=0
 | [],_,_,g,h=>Ap
 |a::t,pv,e,g,h=>by
  unfold yJ at e;split at e
  .exact om
  split at e
  .exact om
  split at e
  .rename_i h1;exact absurd e h1
  .rename_i h1;rcases yBh.1 h with rfl|h
   .simpa using h1
   .exact aFw k lo hg t _ e g h
theorem aQE{k:Nat}{lo hg:Int}{l:List iU}(h:yI k lo hg l=0):l.length<=12/\∀g∈l,mT k g.aX=0:=by
 unfold yI at h;split at h
 .exact gy
 split at h
 .exact gy
 .exact⟨Ah,aFw k lo hg l _ h⟩
theorem aFx(k:Nat):∀(l pre:List dT),yH k pre l=0->∀w∈l,0<=w.aG/\w.aG<k
 | [],_,_,g,h=>Ap
 |a::t,pre,e,g,h=>by
  unfold yH at e;split at e
  .exact om
  rename_i h1;split at e
  .exact om
  split at e
  .exact om
  .rcases yBh.1 h with rfl|h
   .omega
   .exact aFx k t _ e g h
theorem aQF{k:Nat}{l:List dT}(h:mT k l=0):l.length<=8/\∀w∈l,0<=w.aG/\w.aG<k:=by
 unfold mT at h;split at h
 .exact gy
 .exact⟨Ah,aFx k l _ h⟩
theorem gO(o:aP):bH o=0↔eL o.name=true/\(o.aM.length<=60/\(∀r∈o.aM,nI r=0)/\(o.aM.map bB.name).Nodup)/\((o.aD.length≠0/\o.aD.length<=8)/\(∀d∈o.aD,eL d.name=true/\oA o.aM d=0)/\(o.aD.map bD.name).Nodup)/\o.aO.length<=40/\(∀c∈o.aO,QL o.aD.length c)/\(o.aO.map bP.name).Nodup:=by
 unfold bH
 by_cases h1:eL o.name=false
 .rw[yAJ h1];exact⟨λe=>absurd e Al,λe=>absurd e.1 (by rw[h1];decide)⟩
 rw[yAI h1];have YW:eL o.name=true:=Ca
 by_cases h2:60<o.aM.length
 .rw[yAJ h2];exact⟨λe=>absurd e Al,λe=>by have:=e.2.1.1;omega⟩
 rw[yAI h2];have hr:=aFs o.aM [] Ai;rw[yAO]at hr
 by_cases h3:rR [] o.aM=0
 .rw[yAI Fg];have FK:=hr.1 h3;unfold K4
  by_cases h4:o.aD.length=0
  .rw[yAJ h4];exact⟨λe=>absurd e Al,λe=>absurd h4 e.2.2.1.1.1⟩
  rw[yAI h4]
  by_cases h5:8<o.aD.length
  .rw[yAJ h5];exact⟨λe=>absurd e Al,λe=>by have:=e.2.2.1.1.2;omega⟩
  rw[yAI h5];have hd:=aFu o.aM o.aD [] Ai;rw[yAO]at hd
  by_cases h6:tZ o.aM [] o.aD=0
  .rw[yAI (by simpa using h6)];have xY:=hd.1 h6;unfold AT;have hk:(iQ o.aD).length=o.aD.length:=by unfold iQ;rw[yAe]
   rw[hk]
   by_cases h7:40<o.aO.length
   .rw[yAJ (.inr h7)];exact⟨λe=>absurd e Al,λe=>by have:=e.2.2.2.1;omega⟩
   rw[yAI Ah];have hc:AS (iQ o.aD)=false:=by
    unfold AS iQ;rw[yDB];intro x hx;obtain⟨d,hd,rfl⟩:=yAw.1 hx;simp[((AW _ _).1 (xY.1 d hd).2).1]
   rw[hc,yAI Al];have hq:=aFv o.aD.length o.aO [] Ai;rw[yBp,yAO]at hq;rw[hq];exact⟨λe=>⟨YW,⟨Ah,FK⟩,⟨⟨h4,Ah⟩,xY⟩,Ah,e⟩,λe=>e.2.2.2.2⟩
  .rw[yAJ h6];exact⟨λe=>absurd e h6,λe=>absurd (hd.2 e.2.2.1.2) h6⟩
 .rw[yAJ h3];exact⟨λe=>absurd e h3,λe=>absurd (hr.2 e.2.1.2) h3⟩
structure qE (o:aP):Prop where
 name:j8 o.name
 aM:∀r∈o.aM,AV r
 aD:∀d∈o.aD,vF d
 aO:∀c∈o.aO,j8 c.name
def jN(x:bC):Prop:=j8 x.name/\AV x.aG/\vF x.frame/\FE x.stop/\j8 x.aK.name
def gY(o:aP):Prop:=bH o=0/\qE o
theorem jN.fW{x:bC}(h:jN x):fW x:=⟨h.2.1.1,⟨h.2.2.1.2.1,λs hs=>(h.2.2.1.2.2 s hs).1⟩,h.2.2.2.1.1⟩
theorem qE.dI{o:aP}(h:qE o)(h1:o.aM.length<=1000000)(h2:o.aD.length<=1000000)(h3:o.aO.length<=1000000):dI o:=⟨h.name,⟨h.aM,h1⟩,⟨h2,h.aD⟩,h3,h.aO⟩
theorem dI.gG{o:aP}(h:dI o):gG o:=⟨⟨h.2.1.2,λr hr=>(h.2.1.1 r hr).1⟩,⟨h.2.2.1.1,λd hd=>⟨(h.2.2.1.2 d hd).2.1,λs hs=>((h.2.2.1.2 d hd).2.2 s hs).1⟩⟩,h.2.2.2.1⟩
theorem dI.fit{o:aP}(h:dI o):qE o:=⟨h.1,h.2.1.1,h.2.2.1.2,h.2.2.2.2⟩
theorem gY.bounds{o:aP}(h:gY o):o.aM.length<=60/\o.aD.length<=8/\o.aO.length<=40/\∀d∈o.aD,d.stops.length<=60:=by
 obtain⟨_,h2,h3,h4,_⟩:=(gO o).1 h.1;exact⟨h2.1,h3.1.2,h4,λd hd=>((AW _ _).1 (h3.2.1 d hd).2).2.1⟩
theorem gY.dI{o:aP}(h:gY o):dI o:=h.2.dI (by have:=h.bounds.1;omega) (by have:=h.bounds.2.1;omega) (by have:=h.bounds.2.2.1;omega)
theorem gY.aX{o:aP}(h:gY o):∀d∈o.aD,∀s∈d.stops,∀g∈s.aU,∀w∈g.aX,0<=w.aG/\w.aG<o.aM.length:=λd hd s hs g hg=>by
 obtain⟨_,h2,h3,_⟩:=(gO o).1 h.1;have h4:=((AW _ _).1 (h3.2.1 d hd).2).2.2.1 s hs;exact(aQF ((aQE ((aQD _ _ _ _).1 h4).2.2.2).2 g hg)).2
theorem gY.ends{o:aP}(h:gY o):∀c∈o.aO,(0<=c.dR/\c.dR<o.aD.length)/\0<=c.dst/\c.dst<o.aD.length:=λc hc=>by
 obtain⟨_,_,_,_,h4,_⟩:=(gO o).1 h.1;have:=(h4 c hc).2.1;exact⟨⟨this.1,this.2.1⟩,this.2.2⟩
def wG(o:aP):aP×Int:=if bH o=0 then(o,0)else(pM,bH o)
def lM(wy i:Int)(n:Nat):Prop:=0<=i/\i<(if wy=0 then(n:Int)+1 else n)
def CY(wy i:Int)(r:bB)(o:aP):aP:={ iL wy i o with aM:=bT o.aM wy i.toNat r }
def yQ(wy i:Int)(d:bD)(o:aP):aP:={ qI wy i o with aD:=bT o.aD wy i.toNat d }
def IG(wy i:Int)(c:bP)(o:aP):aP:={ o with aO:=bT o.aO wy i.toNat c }
def uZ(wy i dv:Int)(s:bW)(o:aP):aP:={ o with aD:=o.aD.set dv.toNat { o.aD.getD dv.toNat bS with stops:=bT (o.aD.getD dv.toNat bS).stops wy i.toNat s } }
open Classical in
noncomputable def iJ(o:aP)(x:bC):aP×Int:=
 if iA x≠0 then(pM,iA x)
 else if x.kind=13 then wG { o with name:=x.name }
 else if (x.kind-1)/3=0 then(if lM ((x.kind-1)%3) x.idx o.aM.length then(if x6 ((x.kind-1)%3) x.idx o then wG (CY ((x.kind-1)%3) x.idx x.aG o)else(pM,14))else(pM,10))
 else if (x.kind-1)/3=1 then(if lM ((x.kind-1)%3) x.idx o.aD.length then(if ∀c∈o.aO,wM ((x.kind-1)%3) x.idx c=true then wG (yQ ((x.kind-1)%3) x.idx x.frame o)else(pM,14))else(pM,10))
 else if (x.kind-1)/3=2 then(if (0<=x.div/\x.div<o.aD.length)/\lM ((x.kind-1)%3) x.idx (o.aD.getD x.div.toNat bS).stops.length then wG (uZ ((x.kind-1)%3) x.idx x.div x.stop o)else(pM,10))
 else(if lM ((x.kind-1)%3) x.idx o.aO.length then wG (IG ((x.kind-1)%3) x.idx x.aK o)else(pM,10))
theorem aQG{wy i:Int}{d:bD}(h:vF d):vF (qJ wy i d):=by
 obtain⟨h1,h2,h3⟩:=h;refine⟨h1,by unfold qJ;rw[yAe];exact h2,λs hs=>?_⟩;obtain⟨t,ht,rfl⟩:=yAw.1 hs;obtain⟨⟨k1,k2⟩,k3⟩:=h3 t ht;refine⟨⟨by unfold AP;rw[yAe];exact k1,λg hg=>?_⟩,k3⟩;obtain⟨q,hq,rfl⟩:=yAw.1 hg;have:=k2 q hq;unfold vO zA HQ at *;rw[yAe];exact this
theorem O8{α:Type}(l:List α)(wy:Int)(i:Nat)(x:α):(bT l wy i x).length<=l.length+1:=by
 unfold bT;split
 .rw[yAa,yAT,yAt,yBg];omega
 split
 .rw[yAa,yAt,yBg];omega
 .rw[yAD];omega
theorem QM{α:Type}{l:List α}{way:Int}{i:Nat}{x y:α}(h:y∈bT l way i x):y∈l\/y=x:=by
 unfold bT at h;split at h
 .rcases yBf.1 h with h|h
  .exact .inl (yAy h)
  .rcases yBh.1 h with h|h
   .exact .inr h
   .exact .inl (yBi h)
 .split at h
  .exact vj
  .exact yCN h
theorem KH{α:Type}{l:List α}{i:Nat}(h:i<l.length)(d:α):l.getD i d∈l:=by
 rw[yAA,yAh h];exact yAm h
theorem aD4{o:aP}{r:bB}(h:qE o)(hr:AV r)(wy i:Int):qE (CY wy i r o):=⟨h.name,λq hq=>by
 rcases QM hq with hq|rfl
 .exact h.aM q hq
 .exact hr,λd hd=>by
 obtain⟨t,ht,rfl⟩:=yAw.1 hd;exact aQG (h.aD t ht),h.aO⟩
theorem aD5{o:aP}{d:bD}(h:qE o)(hr:vF d)(wy i:Int):qE (yQ wy i d o):=⟨h.name,h.aM,λq hq=>by
 rcases QM hq with hq|rfl
 .exact h.aD q hq
 .exact hr,λc hc=>by
 obtain⟨t,ht,rfl⟩:=yAw.1 hc;exact h.aO t ht⟩
theorem aD7{o:aP}{c:bP}(h:qE o)(hr:j8 c.name)(wy i:Int):qE (IG wy i c o):=⟨h.name,h.aM,h.aD,λq hq=>by
 rcases QM hq with hq|rfl
 .exact h.aO q hq
 .exact hr⟩
theorem aD6{o:aP}{s:bW}(h:qE o)(hr:FE s)(wy i dv:Int)(hd:dv.toNat<o.aD.length)(hl:(o.aD.getD dv.toNat bS).stops.length<=999999):qE (uZ wy i dv s o):=by
 have h0:=h.aD _ (KH hd bS);refine⟨h.name,h.aM,λq hq=>?_,h.aO⟩;rcases yCN hq with hq|rfl
 .exact h.aD q hq
 .refine⟨h0.1,yAV (O8 _ _ _ _) Ah,λt ht=>?_⟩;rcases QM ht with ht|rfl
  .exact h0.2.2 t ht
  .exact hr
end
section
def W4(E:aE):Prop:=∀(s:bW) (τ:List aB),iV s->aL prog E 0 (.inl 86) [Em.stop.aA s] τ (λp σ'=>SV σ' p s/\τ.length<=σ'.length/\∀id,id<τ.length->σ'[id]?=τ[id]?)
theorem mD.aEa{σ σ':Gb}{lo:Nat}{d:bD}{p:PD}{iS:Nat}{ss:Fz}{tG:Nat->Nat}{tgs:Fy}{tW:Nat->Nat->Nat}(h:mD σ lo d p iS ss tG tgs tW)(hr:0<d.stops.length->σ'[iS]?=σ[iS]?)(k:aY qD σ σ'):mD σ' lo d p iS ss tG tgs tW:=by
 obtain⟨h1,h2,h3,h4,h5⟩:=h;exact⟨h1,h2,λhp=>⟨(h3 hp).1,(hr hp).trans (h3 hp).2⟩,λs h=>⟨(h4 s h).1,(h4 s h).2.kept k⟩,h5⟩
theorem aEb{σ σ':Gb}{lo:Nat}{o:aP}{p:PD}{iR iD iC:Nat}{ds:Fz}{tS:Nat->Nat}{tss:Fy}{tG:Nat->Nat->Nat}{tgs:Fx}{tW:Nat->Nat->Nat->Nat}(hO:iI σ lo o p iR iD iC ds tS tss tG tgs tW)(d:Nat)(hd:d<o.aD.length)(Q:PD)(l:List bW)(hQ:SIn σ' Q l)
  (hk:aY qD σ σ') (hs:∀d',d'≠d->(h:d'<o.aD.length)->0<o.aD[d'].stops.length->σ'[tS d']?=σ[tS d']?) (hr:σ'[iD]?=some (.row 53 5 0 (ds.set d [.str o.aD[d].name,.bool o.aD[d].eE,.int .i64 o.aD[d].low,.int .i64 o.aD[d].high,Q]).flatten)) :
  cO Em.div 5 oJ σ' (Go.Kz.hd 5 iD o.aD.length) (o.aD.set d { o.aD[d]with stops:=l }):=by
 have hA:fF (oK Em.div 7 rF σ') (ds.set d [.str o.aD[d].name,.bool o.aD[d].eE,.int .i64 o.aD[d].low,.int .i64 o.aD[d].high,Q]) (o.aD.set d { o.aD[d]with stops:=l }):=by
  refine fF.of (by rw[yAD,yAD,hO.len]) λi h1 h2=>?_
  rw[yAD]at h1 h2
  by_cases e:i=d
  .subst e;rw[yEi,yEi];exact λτ eH=>aEc (d:={ o.aD[i]with stops:=l }) (L:=6) (hQ.bF τ eH)
  .rw[List.getElem_set_ne (yAW e),List.getElem_set_ne (yAW e)];have e1:=(yA.1 (hO.at_ i h2).1).2;rw[e1];exact((hO.at_ i h2).2.aEa (λhp=>hs i e h2 hp) hk).z6
 have h0:=cO.row (R:=rF) (R':=oJ) (v:=0) Al hr (.inl rfl) (λ_ h=>.inr h) (λ_ _ _ _ _ _ h=>h) (λg hg=>by
  rcases yCN hg with hg|rfl
  .exact zZ hO.len (λi hi=>⟨_,(hO.at_ i hi).1,rfl⟩) g hg
  .rfl) hA
 rw[yAD]at h0;rw[o5 Ah];exact h0
variable{E E1 E2 E3 E4 E5 E6:aE}(hU:aH E)
include hU
theorem aNp(h0:E 42=none)(h1:E 78=some AE)(h2:E 41=some (eT prog E1 41))
  (H2:KI E1)
  (h3:E 56=some sN) (h4:E 80=some (eT prog E2 80)) (U2:aH E2) (EN:E2 80=none) (EO:E2 56=some sN)
  (h5:E 85=some (eT prog E3 85)) (H5:W0 E3) (h8:E 86=some (eT prog E6 86)) (H8:W4 E6) (h6:E 79=some (eT prog E4 79)) (H6:EK E4)
  (o:aP) (x:bC) (ho:gG o) (hsh:uY o) (hx:fW x) (hf:iA x=0) (hk:7<=x.kind/\x.kind<=9) (hokr:x.div.toNat<o.aD.length->dI (uZ ((x.kind-1)%3) x.idx x.div x.stop o)) :
  aL prog E 0 (.inl 42) [Em.bM.aA o,Em.edit.aA x] [] (λp σ=>(¬((0<=x.div/\x.div<o.aD.length)/\lM ((x.kind-1)%3) x.idx (o.aD.getD x.div.toNat bS).stops.length)/\p=.aI [bK,.int .i64 10])\/(((0<=x.div/\x.div<o.aD.length)/\lM ((x.kind-1)%3) x.idx (o.aD.getD x.div.toNat bS).stops.length)/\∃P1 P2 P3,p=.aI [if bH (uZ ((x.kind-1)%3) x.idx x.div x.stop o)=0 then .agg [.str o.name,P1,P2,P3]else bX,.int .i64 (bH (uZ ((x.kind-1)%3) x.idx x.div x.stop o))]/\cO Em.aG 6 oI σ P1 o.aM/\cO Em.div 5 oJ σ P2 (uZ ((x.kind-1)%3) x.idx x.div x.stop o).aD/\cO Em.aK 5 mC σ P3 o.aO)):=by
 have k1:=λfl σ=>HJ hx fl σ
 rw[hf]at k1;have k3:=λfl σ=>HK (x:=x) ⟨Ah,Ah⟩ fl σ
 have hth:(x.kind-1)/3=2:=Ah;rw[hth]at k3;obtain⟨wy,hwy⟩:=gn ((x.kind-1)%3);have HL:wy=0\/wy=1\/wy=2:=Ah;rw[hwy]at k3 hokr;rw[hwy];have hx3:=hx.2.2;have k2:=(H2 o ho [.box (Em.bM.aA o),.box (Em.edit.aA x),.box (.agg [.str [],.slice 0 [] .full,.slice 0 [] .full,.slice 0 [] .full])]).e0 Ai;obtain⟨p,σ1,k2,⟨iR,iD,iC,ds,tS,tss,tG,tgs,tW,hO⟩,hl1,hk1⟩:=k2;have hp:=hO.p;have b0:=hk1 0 Ai;have b1:=hk1 1 Ai;have b2:=hk1 2 Ai;simp only[yBv,yBL]at b0 b1 b2;obtain⟨w0,z0⟩:=yA.1 b0;obtain⟨w1,z1⟩:=yA.1 b1;obtain⟨w2,z2⟩:=yA.1 b2;have W6:iI (σ1.set 0 (.box p)) 3 o p iR iD iC ds tS tss tG tgs tW:=hO.aQ (σ':=σ1.set 0 (.box p)) (λid y h3 hy=>by
  have h3:3<=id:=h3;rw[yAd Ah];exact hy)
 have k4:=(aNv U2 EN EO x hk o p (σ1.set 0 (.box p)) 3 iR iD iC ds tS tss tG tgs tW W6 ho).e0 (λe=>by
  have h:=yAK List.length e;rw[yAD,yAQ]at h;omega)
 obtain⟨q4,σ2,k4,⟨L2,dL⟩,hq4⟩:=k4;subst hp;obtain⟨hR,hhR⟩:=gn (Go.Kz.hd 6 iR o.aM.length);obtain⟨hD,hhD⟩:=gn (Go.Kz.hd 5 iD o.aD.length);obtain⟨hC,hhC⟩:=gn (Go.Kz.hd 5 iC o.aO.length);have pR:hR.plain=true:=Az;have pD:hD.plain=true:=Ba;have pC:hC.plain=true:=Bb;have cR:hR.cells=[hR]:=Bw;have cD:hD.cells=[hD]:=Bx;have cC:hC.cells=[hC]:=Bz;unfold PD.plain at pR pD pC;unfold PD.cells at cR cD cC;simp only[hhR,hhD,hhC]at hO W6 k2 k4 dL;have hS:(σ1.set 0 (.box (.agg [.str o.name,hR,hD,hC]))).length=σ1.length:=yAD;have iB:iI σ2 3 o (.agg [.str o.name,hR,hD,hC]) iR iD iC ds tS tss tG tgs tW:=W6.aQ (σ':=σ2) (λid y h3 hy=>by
  rw[dL];exact cE hy)
 have lN:σ1.length<=σ2.length:=by rw[dL,yAa];omega
 obtain⟨kd,dv,ix,nm,⟨rn,rt,ra,rb,rf,wd⟩,⟨fn,fp,flo,fhi,fs⟩,⟨sn,sa,sb,sg⟩,⟨cn,ca,cb,cs,ct⟩⟩:=x;obtain⟨on,rs,dd,cc⟩:=o;have g0:σ2[0]?=some (.box (.agg [.str on,hR,hD,hC])):=by rw[dL,yAg Ah,yAj w0]
 have g1:=b1;rw[<-yAd (l:=σ1) (i:=0) (a:=.box (.agg [.str on,hR,hD,hC])) Ah,<-yAg (l₂:=L2) (by rw[yAD];omega),<-dL]at g1;have g2:=b2;rw[<-yAd (l:=σ1) (i:=0) (a:=.box (.agg [.str on,hR,hD,hC])) Ah,<-yAg (l₂:=L2) (by rw[yAD];omega),<-dL]at g2;simp only[cU,gF,aW]at k1 k2 k3 k4 b0 b1 b2 hk hth hwy g1 z0 z1 z2;simp only[cU,gF,aW];obtain⟨v0,y0⟩:=yA.1 g0;obtain⟨v1,y1⟩:=yA.1 g1;obtain⟨v2,y2⟩:=yA.1 g2;have sO:¬kd=13:=Ah;clear hU;have n2:σ2≠[]:=λe=>Ax
 rcases hq4 with⟨rfl,hbad⟩ | ⟨d,hd,hdv,rfl⟩
 .simp only at hbad;have hneg:¬((0<=dv/\dv<(dd.length:Int))/\lM wy ix (dd.getD dv.toNat bS).stops.length):=λh=>Ah
  by_cases hw0:wy=0
  .subst hw0;refine aL.aN 132 h0 func42 (h:=?_);refine aC zu ?_;exact qz
  .have hz:=h0;refine aL.aN 132 h0 func42 (h:=?_);refine aC (A20 h1 k1 h2 k2 b0 w0 @z0 pR pD pC cR cD cC b1 w1 z1 b2 w2 @z2 (A14 sO h3 k3 h4 k4 @g0 @g1 @v0 y0 @v1 y1 @v2 y2 hw0)) ?_;exact qz
 simp only at hd hdv k4;subst hdv;have hcl:(dd[d]'hd).stops.length<=200:=hsh.2.2.2 _ (yAm hd);have hdq:(d:Int)<(dd.length:Int):=Ah;have hge:dd.getD d bS=dd[d]:=by rw[yAA,yAh hd];rfl
 have hed:uZ wy ix (d:Int) ⟨sn,sa,sb,sg⟩ ⟨on,rs,dd,cc⟩=⟨on,rs,dd.set d { dd[d]with stops:=bT dd[d].stops wy ix.toNat ⟨sn,sa,sb,sg⟩ },cc⟩:=by
  unfold uZ;simp only[yBe,hge]
 have hokr:=hokr hd;simp only[yBe,hge]at hokr ⊢;rw[hed]at hokr ⊢;have hpos:(0:Int)<=(d:Int):=Ah;simp only[hpos,hdq,yBy,yCp];obtain⟨sd,hsd⟩:=gn (dd[d]);have hDr:hD=.aR iD 0 0 dd.length 5:=by rw[<-hhD];exact o5 (show 0<dd.length by omega)
 subst hDr;have xk:jZ prog 32 (.aR iD 0 0 dd.length 5) (.int .i64 d)=some (.dH iD 0 (d*5)):=by
  simp[lH,hd]
 by_cases hw0:wy=0
 .subst hw0;unfold lM at *;simp only[yAL]
  by_cases i1:ix<0
  .have hz:=h0;refine aL.aN 132 h0 func42 (h:=?_);refine aC (A20 h1 k1 h2 k2 b0 w0 @z0 pR pC cR cC b1 w1 z1 b2 w2 @z2 sO h3 (A13 k3 h4 k4 @g0 @g1 @v0 y0 @v1 y1 @v2 y2 xk @i1)) ?_;exact ff
  by_cases i2:(dd[d].stops.length:Int)+1<=ix
  .have hz:=h0;refine aL.aN 132 h0 func42 (h:=?_);refine aC Ae ?_;exact ff
  have hwi:(0:Int)=0/\ix.toNat<=dd[d].stops.length\/((0:Int)=1\/(0:Int)=2)/\ix.toNat<dd[d].stops.length:=.inl ⟨rfl,Ah⟩;have hix:0<=ix/\ix<(dd[d].stops.length:Int)+1:=⟨Ah,Ah⟩;obtain⟨i,rfl⟩:∃i:Nat,ix=i:=⟨ix.toNat,Ah⟩;rw[yBe]at hokr hwi ⊢;refine aL.aN 132 h0 func42 (h:=?_);refine aC Ae ?_;have hlp:=lN;obtain⟨hsz,hrow,hAl⟩:=aEd ((iB.at_ d hd).2);have hDrow:=(iB.row (show 0<dd.length by omega)).2;have hDlo:=(iB.row (show 0<dd.length by omega)).1;have hDg:=(iB.at_ d hd).1;have EP:∀g∈ds,g.length=5:=zZ iB.len λi hi=>⟨_,(iB.at_ i hi).1,rfl⟩
  have hdl:ds.length=dd.length:=iB.len;have n2':=n2;have k8:=(H8 ⟨sn,sa,sb,sg⟩ σ2 hx3).e0 n2;obtain⟨c,qF,k8,hDV,kT,eY⟩:=k8;have sP:qF≠[]:=λe=>by rw[e]at kT;exact n2 (yAf (yCV.1 kT))
  have rJ:=(eY 0 v0).trans g0;have oL:=(eY 1 v1).trans g1;have AG:=(eY 2 v2).trans g2;have hDl:iD<σ2.length:=(yA.1 hDrow).1;have ucD:=(eY iD hDl).trans hDrow;have W7:∀R,aY R σ2 qF:=λR id t n v cs _ hy=>(eY id (yA.1 hy).1).trans hy
  have k5:=(H5 qF (tS d) (tss d) c dd[d].stops 0 i ⟨sn,sa,sb,sg⟩ hcl hsz (λhp=>(eY _ (yA.1 (hrow hp)).1).trans (hrow hp)) (hAl.imp λa b h=>h.aQ (W7 _)) hDV hwi sP).e0 sP;obtain⟨Q,bU,k5,lQ,nW,dO⟩:=k5;have hne:0<dd[d].stops.length->iD≠tS d:=λhp e=>by
   have h1:=hrow hp;rw[<-e,hDrow]at h1;exact jr
  have hno:∀(j:Nat) (b:PD),σ2[j]?=some (.box b)->0<dd[d].stops.length->j≠tS d:=λj b hj hp e=>by
   have h1:=hrow hp;rw[<-e,hj]at h1;cases h1
  have s0:=dO 0 _ rJ (hno 0 _ g0);have s1:=dO 1 _ oL (hno 1 _ g1);have s2:=dO 2 _ AG (hno 2 _ g2);have sD:=dO iD _ ucD hne;obtain⟨f0,d0⟩:=yA.1 s0;obtain⟨f2,d2⟩:=yA.1 s2;obtain⟨fD,dD⟩:=yA.1 sD;obtain⟨vD,yD⟩:=yA.1 hDrow;have pQ:=lQ.plain;have cQ:=lQ.cells;unfold PD.plain at pQ;unfold PD.cells at cQ;have nY:=o6 (B:=[iD,1]) h5 k5 nW (λid hi h=>by
   simp only[yBh,yBX,yC]at hi;rcases hi with rfl|rfl
   .rw[sD,ucD]
   .rw[s1,oL])
  have sQ:=o6 (B:=[iD,1]) h8 k8 kT (λid _ h=>eY id h);simp only[pV,aW]at sQ;have hflat:=nH ds EP;have hgd:=(yA.1 hDg).2;have hat:=tP (sz:=5) ds d Ah EP;have hfs:=wH (sz:=5) (new:=[Q]) (j:=3+1) Ai ds d Ah EP;rw[hgd]at hat hfs;have AH:(ds.flatten.drop (d*5+4)).take 1=[Go.Kz.hd 4 (tS d) dd[d].stops.length]:=by
   exact zj
  have hset:dG [PD.str dd[d].name,.bool dd[d].eE,.int .i64 dd[d].low,.int .i64 dd[d].high,Go.Kz.hd 4 (tS d) dd[d].stops.length] (3+1) [Q]=[.str dd[d].name,.bool dd[d].eE,.int .i64 dd[d].low,.int .i64 dd[d].high,Q]:=rfl;rw[hset]at hfs;have gK:d*5+4+1<=ds.flatten.length:=Ah;obtain⟨KJ,W8⟩:=gn (ds.flatten);rw[W8]at hDrow ucD sD AH hfs gK yD dD;obtain⟨wI,hhS⟩:=gn (Go.Kz.hd 4 (tS d) dd[d].stops.length);have pS:wI.plain=true:=Dn;have cS:wI.cells=[wI]:=Dp;unfold PD.plain at pS;unfold PD.cells at cS;rw[hhS]at AH nY;have W9:KJ[d*5+4]' Ah=wI:=by
   exact jy
  have ER:=hfs;simp only[dG,yAT,yAQ,yAp,Nat.reduceAdd,yAi,yAR,yAO,yBW]at ER;refine Wp.aEe h8 ES n2 [(3,1),(11,iD)] [iD,1] [some iD,some 1] Ao ⟨⟨_,rfl,rfl⟩,⟨_,rfl,rfl⟩,trivial⟩ Aj Ch ?_;refine aAG Af ?_;apply SQ.nil;obtain⟨ds',ET⟩:∃x,ds.set d [.str dd[d].name,.bool dd[d].eE,.int .i64 dd[d].low,.int .i64 dd[d].high,Q]=x:=⟨_,rfl⟩;rw[ET]at ER
  try rw[ET]
  obtain⟨cL,xY⟩:∃s,bU.set iD (.row 53 5 0 ds'.flatten)=s:=⟨_,rfl⟩;rw[xY];have g6:∀j,j≠iD->cL[j]?=bU[j]?:=λj hj=>by rw[<-xY,yAd (yAW hj)]
  have r6:cL[iD]?=some (.row 53 5 0 ds'.flatten):=by rw[<-xY];exact yAj fD
  have kf:∀(R:TypeId->Prop),(∀t,R t->t≠53/\t≠56)->aY R σ2 cL:=λR hR id t n v cs ht hy=>by
   exact gj
  obtain⟨hi1,hi2,xZ⟩:=rI iB hsh;have m1:=(oZ.o4 hi1).aQ (kf oI (λt h=>Be));have m3:=(nV.o4 xZ).aQ (kf mC (λt h=>Be));have m2:=aEb (σ':=cL) iB d hd Q (bT dd[d].stops 0 i ⟨sn,sa,sb,sg⟩) ⟨lQ.plain,lQ.cells,λτ eH=>lQ.bF τ (aY.trans (λid t n v cs ht hy=>by
    rw[g6 id (λe=>by rw[e,sD]at hy;have:=(aB.row.inj (yAU hy)).1;rcases ht with h|h|h<;>rw[h]at this<;>exact absurd this Al)];exact hy) eH)⟩ (kf qD (λt h=>by rcases h with h|h<;>rw[h]<;>decide)) (λd' hne h hp=>by
     have jD:=((iB.at_ d' h).2.row hp).2;rw[g6 _ (λe=>by rw[e,hDrow]at jD;exact absurd (aB.row.inj (yAU jD)).1 Al),jD];exact dO _ _ ((eY _ (yA.1 jD).1).trans jD) (λkQ e=>hne (iB.XA d' d h hd hp kQ e))) (by rw[ET];exact r6)
  simp only at m1 m2 m3;rw[hhR]at m1;rw[show Go.Kz.hd 5 iD dd.length=.aR iD 0 0 dd.length 5 from o5 Ah]at m2;rw[hhC]at m3;have n6:cL≠[]:=λe=>by rw[e]at r6;cases r6
  have k6:=(H6 _ on hR (.aR iD 0 0 dd.length 5) hC rs _ cc m1 m2 m3 hokr n6).e0 n6;obtain⟨q,wJ,k6,rfl,L5,rfl⟩:=k6;obtain⟨e,he⟩:=gn (bH ⟨on,rs,dd.set d { dd[d]with stops:=bT dd[d].stops 0 i ⟨sn,sa,sb,sg⟩ },cc⟩);exact bp
 .unfold lM at *;simp only[hw0,yAN]
  by_cases i1:ix<0
  .have hz:=h0;refine aL.aN 132 h0 func42 (h:=?_);refine aC (A20 h1 k1 h2 k2 b0 w0 @z0 pR pC cR cC b1 w1 z1 b2 w2 @z2 sO h3 (A14 k3 h4 k4 @g0 @g1 @v0 y0 @v1 y1 @v2 y2 xk @i1 hw0)) ?_;exact ff
  by_cases i2:(dd[d].stops.length:Int)<=ix
  .have hz:=h0;refine aL.aN 132 h0 func42 (h:=?_);refine aC Ag ?_;exact ff
  have hwi:wy=0/\ix.toNat<=dd[d].stops.length\/(wy=1\/wy=2)/\ix.toNat<dd[d].stops.length:=Ah;have hix:0<=ix/\ix<(dd[d].stops.length:Int):=Ah;obtain⟨i,rfl⟩:∃i:Nat,ix=i:=⟨ix.toNat,Ah⟩;rw[yBe]at hokr hwi ⊢;refine aL.aN 132 h0 func42 (h:=?_);refine aC Ag ?_;have hlp:=lN;obtain⟨hsz,hrow,hAl⟩:=aEd ((iB.at_ d hd).2);have hDrow:=(iB.row (show 0<dd.length by omega)).2;have hDlo:=(iB.row (show 0<dd.length by omega)).1;have hDg:=(iB.at_ d hd).1;have EP:∀g∈ds,g.length=5:=zZ iB.len λi hi=>⟨_,(iB.at_ i hi).1,rfl⟩
  have hdl:ds.length=dd.length:=iB.len;have n2':=n2;have k8:=(H8 ⟨sn,sa,sb,sg⟩ σ2 hx3).e0 n2;obtain⟨c,qF,k8,hDV,kT,eY⟩:=k8;have sP:qF≠[]:=λe=>by rw[e]at kT;exact n2 (yAf (yCV.1 kT))
  have rJ:=(eY 0 v0).trans g0;have oL:=(eY 1 v1).trans g1;have AG:=(eY 2 v2).trans g2;have hDl:iD<σ2.length:=(yA.1 hDrow).1;have ucD:=(eY iD hDl).trans hDrow;have W7:∀R,aY R σ2 qF:=λR id t n v cs _ hy=>(eY id (yA.1 hy).1).trans hy
  have k5:=(H5 qF (tS d) (tss d) c dd[d].stops wy i ⟨sn,sa,sb,sg⟩ hcl hsz (λhp=>(eY _ (yA.1 (hrow hp)).1).trans (hrow hp)) (hAl.imp λa b h=>h.aQ (W7 _)) hDV hwi sP).e0 sP;obtain⟨Q,bU,k5,lQ,nW,dO⟩:=k5;have hne:0<dd[d].stops.length->iD≠tS d:=λhp e=>by
   have h1:=hrow hp;rw[<-e,hDrow]at h1;exact jr
  have hno:∀(j:Nat) (b:PD),σ2[j]?=some (.box b)->0<dd[d].stops.length->j≠tS d:=λj b hj hp e=>by
   have h1:=hrow hp;rw[<-e,hj]at h1;cases h1
  have s0:=dO 0 _ rJ (hno 0 _ g0);have s1:=dO 1 _ oL (hno 1 _ g1);have s2:=dO 2 _ AG (hno 2 _ g2);have sD:=dO iD _ ucD hne;obtain⟨f0,d0⟩:=yA.1 s0;obtain⟨f2,d2⟩:=yA.1 s2;obtain⟨fD,dD⟩:=yA.1 sD;obtain⟨vD,yD⟩:=yA.1 hDrow;have pQ:=lQ.plain;have cQ:=lQ.cells;unfold PD.plain at pQ;unfold PD.cells at cQ;have nY:=o6 (B:=[iD,1]) h5 k5 nW (λid hi h=>by
   simp only[yBh,yBX,yC]at hi;rcases hi with rfl|rfl
   .rw[sD,ucD]
   .rw[s1,oL])
  have sQ:=o6 (B:=[iD,1]) h8 k8 kT (λid _ h=>eY id h);simp only[pV,aW]at sQ;have hflat:=nH ds EP;have hgd:=(yA.1 hDg).2;have hat:=tP (sz:=5) ds d Ah EP;have hfs:=wH (sz:=5) (new:=[Q]) (j:=3+1) Ai ds d Ah EP;rw[hgd]at hat hfs;have AH:(ds.flatten.drop (d*5+4)).take 1=[Go.Kz.hd 4 (tS d) dd[d].stops.length]:=by
   exact zj
  have hset:dG [PD.str dd[d].name,.bool dd[d].eE,.int .i64 dd[d].low,.int .i64 dd[d].high,Go.Kz.hd 4 (tS d) dd[d].stops.length] (3+1) [Q]=[.str dd[d].name,.bool dd[d].eE,.int .i64 dd[d].low,.int .i64 dd[d].high,Q]:=rfl;rw[hset]at hfs;have gK:d*5+4+1<=ds.flatten.length:=Ah;obtain⟨KJ,W8⟩:=gn (ds.flatten);rw[W8]at hDrow ucD sD AH hfs gK yD dD;obtain⟨wI,hhS⟩:=gn (Go.Kz.hd 4 (tS d) dd[d].stops.length);have pS:wI.plain=true:=Dn;have cS:wI.cells=[wI]:=Dp;unfold PD.plain at pS;unfold PD.cells at cS;rw[hhS]at AH nY;have W9:KJ[d*5+4]' Ah=wI:=by
   exact jy
  have ER:=hfs;simp only[dG,yAT,yAQ,yAp,Nat.reduceAdd,yAi,yAR,yAO,yBW]at ER;refine Wp.aEe h8 ES n2 [(3,1),(11,iD)] [iD,1] [some iD,some 1] Ao ⟨⟨_,rfl,rfl⟩,⟨_,rfl,rfl⟩,trivial⟩ Aj Ch ?_;refine aAG Af ?_;apply SQ.nil;obtain⟨ds',ET⟩:∃x,ds.set d [.str dd[d].name,.bool dd[d].eE,.int .i64 dd[d].low,.int .i64 dd[d].high,Q]=x:=⟨_,rfl⟩;rw[ET]at ER
  try rw[ET]
  obtain⟨cL,xY⟩:∃s,bU.set iD (.row 53 5 0 ds'.flatten)=s:=⟨_,rfl⟩;rw[xY];have g6:∀j,j≠iD->cL[j]?=bU[j]?:=λj hj=>by rw[<-xY,yAd (yAW hj)]
  have r6:cL[iD]?=some (.row 53 5 0 ds'.flatten):=by rw[<-xY];exact yAj fD
  have kf:∀(R:TypeId->Prop),(∀t,R t->t≠53/\t≠56)->aY R σ2 cL:=λR hR id t n v cs ht hy=>by
   exact gj
  obtain⟨hi1,hi2,xZ⟩:=rI iB hsh;have m1:=(oZ.o4 hi1).aQ (kf oI (λt h=>Be));have m3:=(nV.o4 xZ).aQ (kf mC (λt h=>Be));have m2:=aEb (σ':=cL) iB d hd Q (bT dd[d].stops wy i ⟨sn,sa,sb,sg⟩) ⟨lQ.plain,lQ.cells,λτ eH=>lQ.bF τ (aY.trans (λid t n v cs ht hy=>by
    rw[g6 id (λe=>by rw[e,sD]at hy;have:=(aB.row.inj (yAU hy)).1;rcases ht with h|h|h<;>rw[h]at this<;>exact absurd this Al)];exact hy) eH)⟩ (kf qD (λt h=>by rcases h with h|h<;>rw[h]<;>decide)) (λd' hne h hp=>by
     have jD:=((iB.at_ d' h).2.row hp).2;rw[g6 _ (λe=>by rw[e,hDrow]at jD;exact absurd (aB.row.inj (yAU jD)).1 Al),jD];exact dO _ _ ((eY _ (yA.1 jD).1).trans jD) (λkQ e=>hne (iB.XA d' d h hd hp kQ e))) (by rw[ET];exact r6)
  simp only at m1 m2 m3;rw[hhR]at m1;rw[show Go.Kz.hd 5 iD dd.length=.aR iD 0 0 dd.length 5 from o5 Ah]at m2;rw[hhC]at m3;have n6:cL≠[]:=λe=>by rw[e]at r6;cases r6
  have k6:=(H6 _ on hR (.aR iD 0 0 dd.length 5) hC rs _ cc m1 m2 m3 hokr n6).e0 n6;obtain⟨q,wJ,k6,rfl,L5,rfl⟩:=k6;obtain⟨e,he⟩:=gn (bH ⟨on,rs,dd.set d { dd[d]with stops:=bT dd[d].stops wy i ⟨sn,sa,sb,sg⟩ },cc⟩);exact bp
end
theorem O9{σ:Gb}{on:Gd}{P1 P2 P3:PD}{rs:List bB}{dd:List bD}{cc:List bP}(l1:cO Em.aG 6 oI σ P1 rs)(l2:cO Em.div 5 oJ σ P2 dd)(l3:cO Em.aK 5 mC σ P3 cc)(K:Nat) :
  (bF σ (K+9) (.agg [.str on,P1,P2,P3])).strip=Em.bM.aA ⟨on,rs,dd,cc⟩/\(bF σ (K+9) (.agg [.str on,P1,P2,P3])).bQ=true:=by
 obtain⟨a1,a2⟩:=l1.bF σ (λ_ _ _ _ _ _ h=>h) K;obtain⟨b1,b2⟩:=l2.bF σ (λ_ _ _ _ _ _ h=>h) K;obtain⟨c1,c2⟩:=l3.bF σ (λ_ _ _ _ _ _ h=>h) K;refine⟨?_,?_⟩
 .show PD.agg [PD.strip (.str on),PD.strip (bF σ (K+8) P1),PD.strip (bF σ (K+8) P2),PD.strip (bF σ (K+8) P3)]=_
  rw[a1,b1,c1];rfl
 .show(PD.bQ (.str on)&&(PD.bQ (bF σ (K+8) P1)&&(PD.bQ (bF σ (K+8) P2)&&(PD.bQ (bF σ (K+8) P3)&&true))))=true
  rw[a2,b2,c2];rfl
theorem aD8{Eo:aE}{σ:Gb}{on:Gd}{P1 P2 P3:PD}{rs:List bB}{dd:List bD}{cc:List bP}(l1:cO Em.aG 6 oI σ P1 rs)(l2:cO Em.div 5 oJ σ P2 dd)(l3:cO Em.aK 5 mC σ P3 cc)(h:aJ prog Eo 27 [Em.bM.aA ⟨on,rs,dd,cc⟩] (i64.aA (bH ⟨on,rs,dd,cc⟩)))(fl:Nat) :
  EJ (CH prog Eo 27) fl [.agg [.str on,P1,P2,P3]] σ=some (.int .i64 (bH ⟨on,rs,dd,cc⟩),σ):=by
 obtain⟨e1,e2⟩:=O9 (on:=on) l1 l2 l3 11;have e3:CH prog Eo 27 [bF σ 20 (.agg [.str on,P1,P2,P3])]=some (.int .i64 (bH ⟨on,rs,dd,cc⟩)):=aNr (by rw[List.map_singleton,e1];exact h) rfl;unfold EJ;simp only[List.map_singleton,PD.fH,e2,yDj,yAL,e3]
theorem aMZ{E Eo:aE}(h0:E 79=none)(h1:E 27=some (EJ (CH prog Eo 27)))(ho:∀o,dI o->aJ prog Eo 27 [Em.bM.aA o] (i64.aA (bH o))):EK E:=by
 intro σ on P1 P2 P3 rs dd cc l1 l2 l3 hok dQ;have k1:=λL:List aB=>aD8 (on:=on) (l1.aQ (aY.app _ σ L)) (l2.aQ (aY.app _ σ L)) (l3.aQ (aY.app _ σ L)) (ho _ hok)
 have k0:=aD8 (on:=on) l1 l2 l3 (ho _ hok);obtain⟨e,he⟩:=gn (bH ⟨on,rs,dd,cc⟩);rw[he]at k0;simp only[he]at k1 ⊢;have p1:=l1.plain;have p2:=l2.plain;have p3:=l3.plain;have c1:=l1.cells;have c2:=l2.cells;have c3:=l3.cells;unfold PD.plain at p1 p2 p3;unfold PD.cells at c1 c2 c3;refine aL.aN 12 h0 func79 (h:=?_);apply WL.zF Ao;apply SL.box (p:=.agg [.str on,P1,P2,P3]) (hw:=Wt.i rfl) (hx:=rfl) (hp:=by simp[p1,p2,p3]) (hr:=Ns.i rfl) (hn:=Ns.i rfl) (hf:=Fr.i rfl);refine oU p1 ?_;apply SQ.nil
 by_cases hz:e=0
 .subst hz;refine aC (A9 h1 k0 k1 p1 p2 p3 c1 c2 c3) ?_;exact⟨.aI [.agg [.str on,P1,P2,P3],.int .i64 0],σ++[.box (.agg [.str on,P1,P2,P3]),.box (.agg [.str on,P1,P2,P3])],by simp[cI],by rw[yAJ rfl],_,rfl⟩
 .refine aC (A10 h1 k0 k1 @hz p1 p2 p3 c1 c2 c3) ?_;exact⟨.aI [bX,.int .i64 e],σ++[.box (.agg [.str on,P1,P2,P3]),.box bX],by simp[cI,bX],by rw[yAI hz],_,rfl⟩
noncomputable def KA:Nat->List PD->List aB->Option (PD×List aB):=entry (vQ i64 i64 i64 Em.aNs λn w i=>dP (-1000000000<=n/\n<=1000000000) (some (eX n w i)))
theorem aD9(w i n:Int)(h:-1000000000<=n/\n<=1000000000)(fl:Nat)(σ:List aB):KA fl [.int .i64 n,.int .i64 w,.int .i64 i] σ=some (.aI [.int .i64 (eX n w i).1,.bool (eX n w i).2],σ):=by
 have e:∀z:Int,i64.dec (.int .i64 z)=some z:=λz=>Em.cM (i64.str z)
 unfold KA entry vQ;simp only[e,eV h];rfl
theorem aNh{E:aE}(hU:aH E)(h0:E 86=none)(h1:E 118=some (iH 92 3))(h2:E 119=some (iH 89 2)):W4 E:=λs τ hs=>
 (WW hU h0 h1 h2 s hs τ).mono λ_ _ ⟨⟨_,_,_,h⟩,a,b⟩=>⟨h.sv,a,b⟩
theorem aNj{E E0:aE}(hU:aH E)(hU0:aH E0)(h0:E 77=none)(h1:E 110=some (iH 56 4))(h2:E 86=some (eT prog E0 86))
  (k0:E0 86=none) (k1:E0 118=some (iH 92 3)) (k2:E0 119=some (iH 89 2)):W5 E DV:=λd τ hs=>
 (aD3 hU h0 h1 h2 (λs hs τ=>WW hU0 k0 k1 k2 s hs τ) d hs τ).mono λ_ _ ⟨⟨_,_,_,_,_,h⟩,a,b⟩=>⟨h.dv,a,b⟩
theorem aNd{E:aE}(hU:aH E)(h0:E 81=none)(h1:E 111=some KA):W2 E:=λway index o p bJ lo iR iD iC ds tS tss tG tgs tW hO hl ho hb hw=>aNt hU h0 h1 way index (λn hn=>aD9 way index n hn) o p bJ lo iR iD iC ds tS tss tG tgs tW hO hl ho hb hw
theorem aNf{E:aE}(hU:aH E)(h0:E 83=none)(h1:E 111=some KA):W3 E:=λway index o p bJ lo iR iD iC ds tS tss tG tgs tW hO hl ho hb=>aNu hU h0 h1 way index (λn hn=>aD9 way index n hn) o p bJ lo iR iD iC ds tS tss tG tgs tW hO hl ho hb
theorem KG{E:aE}{f:FuncId}{args:Gc}{p:PD}{σ:Gb}(h:jL prog E 0 (.inl f) args [] p σ){on:Gd}{P1 P2 P3:PD}{rs:List bB}{dd:List bD}{cc:List bP}(hp:p=.aI [if bH ⟨on,rs,dd,cc⟩=0 then .agg [.str on,P1,P2,P3]else bX,.int .i64 (bH ⟨on,rs,dd,cc⟩)])
  (l1:cO Em.aG 6 oI σ P1 rs) (l2:cO Em.div 5 oJ σ P2 dd) (l3:cO Em.aK 5 mC σ P3 cc):RunT prog E f args ((Em.bM.sA i64).aA (wG ⟨on,rs,dd,cc⟩)):=by
 refine⟨20,p,σ,h,?_,?_⟩
 .subst hp;unfold wG
  by_cases hz:bH ⟨on,rs,dd,cc⟩=0
  .rw[yAJ hz,yAJ hz,hz];show PD.aI [PD.strip (bF σ 19 (.agg [.str on,P1,P2,P3])),.int .i64 0]=_
   rw[(O9 l1 l2 l3 10).1];rfl
  .rw[yAI hz,yAI hz];rfl
 .subst hp
  by_cases hz:bH ⟨on,rs,dd,cc⟩=0
  .rw[yAJ hz];show(PD.bQ (bF σ 19 (.agg [.str on,P1,P2,P3]))&&(true&&true))=true
   rw[(O9 l1 l2 l3 10).2];rfl
  .rw[yAI hz];rfl
theorem EL{E:aE}{f:FuncId}{args:Gc}{p:PD}{σ:Gb}(h:jL prog E 0 (.inl f) args [] p σ){e:Int}(hp:p=.aI [bK,.int .i64 e]):RunT prog E f args ((Em.bM.sA i64).aA (pM,e)):=⟨20,p,σ,h,by rw[hp];rfl,by rw[hp];rfl⟩
theorem gY.short{o:aP}(h:gY o):uY o:=by
 obtain⟨h1,h2,h3,h4⟩:=h.bounds;exact⟨Ah,Ah,Ah,λd hd=>yAV (h4 d hd) Al⟩
end Go.Kz
