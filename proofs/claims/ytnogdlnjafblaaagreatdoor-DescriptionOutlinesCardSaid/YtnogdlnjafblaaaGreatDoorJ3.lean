/- Steps of the proof. -/
import Derived.Test.YtnogdlnjafblaaaGreatDoorH5
import Derived.Test.YtnogdlnjafblaaaGreatDoorJ1
import Derived.Test.YtnogdlnjafblaaaGreatDoorJ0
set_option linter.all false
set_option maxHeartbeats 40000000
set_option maxRecDepth 100000
open Go.Proofs.Tryz
namespace Go.Kz
open Go Go.Proofs
theorem a4U:∀x∈qZ,mI x.1 x.2=0:=zb
theorem a4N:∀x∈PI,mI x.1 x.2=0:=zb
theorem aEi:∀i:Nat,i<10->∀c∈([82,83,67,68]:List UInt8),cV [c,UInt8.ofNat (48+i)]=true:=zb
theorem a4V:∀n:Int,cV (NU n)=true:=by
 intro n;have h:∀t∈SU,cV t=true:=zb;have h0:cV [79,112,101,110]=true:=zb;unfold NU;rw[yAA];cases e:SU[(n%3).toNat]? with
 |none=>
  have:=(yDV.1 e);have h3:SU.length=3:=rfl;omega
 |some t=>exact h t (yAE e)
theorem a4W(n:Int):oP n∈qZ:=by
 have hlt:(n%16).toNat<qZ.length:=by
  have h:qZ.length=16:=rfl;omega
 unfold oP;rw[yAA,yAh hlt];exact yAm hlt
theorem aQO(x:mP)(hx:OH x)(i:Nat):lU (vZ x i)=0:=by
 have h1:cV [82,digit (i%10)]=true:=aEi (i%10) (yBj _ yx) 82 yo;have h2:=a4V x.o9;have h3:=a4U _ (a4W x.bB);have h4:=hx.2.2.1;have hwl:(HZ x (1+(x.NA%25).toNat)).length=1+(x.NA%25).toNat:=by simp[HZ]
 have hb:(HZ x (1+(x.NA%25).toNat)).any kT=false:=by
  rw[yCz];intro w hw;obtain⟨k,_,rfl⟩:=yAw.1 hw;have hlt:k%5<5:=yBj _ yx;have hr:0<=HY x k/\HY x k<=255:=by
   exact fy
  unfold kT;simp;omega
 unfold lU vZ;simp only[h1,h2,h3,hwl,hb];have h5:-256<=x.first/\x.first<=256:=⟨by have:=h4.1;omega,by have:=h4.2;omega⟩;simp[h5];omega
theorem aI6{ns:List (List UInt8)}{nm:Dr}(h:nm∉ns):kD ns nm=false:=by
 unfold kD;rw[yCz];intro n hn e;exact h (by rw[show nm=n by simpa using e];exact hn)
theorem aQP:∀(l:List aX) (ns:List (List UInt8)),(∀r∈l,lU r=0)->(ns++l.map aX.name).Nodup->tA ns l=0
 | [],_,_,_=>rfl
 |r::t,ns,h,hn=>by
  have h0:=h r (yAZ ..);rw[yAX]at hn;have hnn:r.name∉ns:=λhm=>(yCm.1 hn).2.2 _ hm _ (yAZ ..) rfl
  unfold tA;rw[h0,aI6 hnn];simp only[ne_eq,yBr,yAO,yAx];exact aQP t (ns++[r.name]) (λq hq=>h q (yBB _ hq)) (by rw[yAi];exact hn)
theorem aI7:∀c∈([82,83,67,68]:List UInt8),∀n:Nat,n<11->((List.range n).map λi=>[c,digit (i%10)]).Nodup:=zb
theorem a4R(l:List mP)(hl:∀x∈l,OH x)(n:Nat)(hn:n<=l.length)(a82:n<=10):tA [] (fV l n)=0:=by
 refine aQP _ [] (λr hr=>?_) ?_
 .obtain⟨i,hi,rfl⟩:=yAw.1 hr;have hi':i<l.length:=Dg;refine aQO _ ?_ i;rw[yAA,yAh hi'];exact hl _ (yAm hi')
 .rw[yAQ];have h:(fV l n).map aX.name=(List.range n).map λi=>[82,digit (i%10)]:=by
   unfold fV;rw[yBc];rfl
  rw[h];exact aI7 82 yo n ym
def aQQ(k:Nat)(c:dY):Prop:=cV c.name=true/\0<=c.iR/\c.iR<k/\0<=c.dst/\c.dst<k/\-127<=c.shift/\c.shift<=127/\¬(c.iR=c.dst/\c.shift=0)
theorem aQR(k:Nat):∀(l pre:List dY),(∀c∈l,aQQ k c)->(pre.map dY.name++l.map dY.name).Nodup->vY k pre l=0
 | [],_,_,_=>rfl
 |c::t,pre,h,hn=>by
  obtain⟨h1,h2,h3,h4,h5,h6,h7,h8⟩:=h c (yAZ ..);rw[yAX]at hn;have hnn:pre.any (iM c.name)=false:=by
   rw[yCz];intro x hx e;have e2:x.name=c.name:=by simpa [iM]using e
   exact(yCm.1 hn).2.2 _ (yAw.2 ⟨x,hx,rfl⟩) _ (yAZ ..) e2
  unfold vY;rw[h1,hnn,yAI yo,yAI yo,yAI ym,yAI ym,yAI h8];exact aQR k t (pre++[c]) (λq hq=>h q (yBB _ hq)) (by rw[yAH,yAi];exact hn)
theorem a4S(l:List vB)(n k:Nat)(hn:1<=n)(hk:k<=10):vY n [] (lJ n l k)=0:=by
 refine aQR n _ [] (λc hc=>?_) ?_
 .obtain⟨i,hi,rfl⟩:=yAw.1 hc;have hi':=yAY.1 hi;obtain⟨x,hx⟩:=gn (l.getD i default);simp only[hx];have hnm:cV [67,digit i]=true:=aEi i ym 67 yo;have e1:=yDo x.iR (show(n:Int)≠0 by omega);have e2:=yDp x.iR (show(0:Int)<n by omega);have e3:=yDo x.dst (show(n:Int)≠0 by omega);have e4:=yDp x.dst (show(0:Int)<n by omega);unfold aQQ WK;simp only;obtain⟨s,hs⟩:=gn (x.shift.tmod 25);have e5:-25<s/\s<25:=by
   rw[<-hs];rcases Int.lt_or_le x.shift 0 with h|h
   .have:=Int.neg_tmod (-x.shift) 25;rw[Int.neg_neg]at this;rw[this,yCT ym];omega
   .rw[yCT h];omega
  rw[hs];refine⟨hnm,e1,e2,e3,e4,?_,?_,?_⟩
  .split<;>omega
  .split<;>omega
  .split
   .omega
   .assumption
 .have h:(lJ n l k).map dY.name=(List.range k).map λi=>[67,digit i]:=by
   unfold lJ;rw[yBc];rfl
  rw[yBA,yAQ,h];have h2:=aI7 67 yo k ym;rw[show(List.range k).map (λi=>[(67:UInt8),digit i])=(List.range k).map λi=>[67,digit (i%10)]from yAG λi hi=>by rw[Nat.mod_eq_of_lt Dg]];exact h2
theorem aI4{k:Nat}{n s:Int}(h0:0<=n)(h1:n<k)(h2:-127<=s)(h3:s<=127):mK k [⟨n,s⟩]=0:=by
 unfold mK;rw[yAI yo];unfold K0;rw[yAI zi,yAI zi,yAI yo];rfl
theorem a4J{k:Nat}{n s:Int}(h0:0<=n)(h1:n<k)(h2:-127<=s)(h3:s+7<=127):mK k [⟨n,s⟩,⟨n,s+7⟩]=0:=by
 unfold mK;rw[yAI yo];unfold K0;rw[yAI zi,yAI zi,yAI yo];unfold K0;rw[yAI zi,yAI zi,yAI zc];rfl
theorem aEh{k:Nat}{lo hg:Int}{g:jV}(h1:lo<=g.lo)(h2:g.hi<=hg)(h3:g.lo<=g.hi)(hd:mK k g.oB=0):HS k lo hg [g]=0:=by
 unfold HS;rw[yAI yo,yAI yo];unfold KZ;rw[yAI ym,yAI (by simp[SP];omega),yAI (by simp[hd])];rfl
theorem a4K{k:Nat}{lo hg:Int}{g q:jV}(h1:lo<=g.lo)(h2:q.hi<=hg)(h3:g.lo<=g.hi)(h4:g.hi<q.lo)(h5:q.lo<=q.hi)(hd:mK k g.oB=0)(hq:mK k q.oB=0):HS k lo hg [g,q]=0:=by
 unfold HS;rw[yAI yo,yAI yo];unfold KZ;rw[yAI ym,yAI (by simp[SP];omega),yAI (by simp[hd])];unfold KZ;rw[yAI ym,yAI (by simp[SP];omega),yAI (by simp[hq])];rfl
theorem a4L(k:Nat)(kd n sh lo hg at_ m other:Int)(hn0:0<=n)(hn:n<k)(hm0:0<=m)(hm:m<k)(hs:-60<=sh/\sh<=64)(ho:-60<=other/\other<=64)(ha:lo<=at_)(hb:at_<=hg) :
  HS k lo hg (tC kd n sh lo hg at_ m other)=0:=by
 have d1:mK k [⟨n,sh⟩]=0:=aI4 hn0 hn ym ym;have d2:mK k [⟨n,sh-12⟩]=0:=aI4 hn0 hn ym ym;have d3:mK k [⟨m,other⟩]=0:=aI4 hm0 hm ym ym;unfold tC;split
 .exact aEh yo yo zi (a4J hn0 hn ym ym)
 split
 .have d4:mK k (if kd=3 then [⟨m,other⟩]else [⟨n,sh-12⟩])=0:=by
   split
   .exact d3
   .exact d2
  split
  .exact a4K yo yo zi zi (by simpa using hb) d1 d4
  .exact aEh (by simpa using ha) yo (by simpa using hb) d4
 split
 .exact aEh (by simpa using ha) yo (by simpa using hb) d1
 .exact aEh yo yo zi d1
theorem aQF:∀l:List aX,(∀r∈l,lU r=0)->K9 l=0
 | [],_=>rfl
 |r::t,h=>by
  unfold K9;rw[h r (yAZ ..),yAI yo];exact aQF t λq hq=>h q (yBB _ hq)
theorem aI5{lo hg:Int}(h3:0<=lo)(h4:lo<=hg)(h5:hg<=127):kB lo hg=0:=by
 unfold kB;rw[yAI ym,yAI ym]
theorem a4M(rs:List aX)(hr:∀r∈rs,lU r=0)(h1:1<=rs.length)(h2:rs.length<=60)(lo hg:Int)(h3:0<=lo)(h4:lo<=hg)(h5:hg<=127)(x:pI)(hx:QO x)(i:Nat)(hi:i<10) :
  rJ rs lo hg (yX rs lo hg x i)=0:=by
 have hp:HV rs lo hg=0:=by
  unfold HV;rw[yAI ym,aQF rs hr,yAI yo];exact aI5 h3 h4 h5
 have hn:cV [83,digit i]=true:=aEi i hi 83 yo;have hf:=a4N _ (aHM x.bB hx.2.1);have hk:(rs.length:Int)≠0:=ym;have e1:=yDo x.bC hk;have e2:=yDp x.bC (show(0:Int)<rs.length by omega);have e3:=yDo (x.bC%rs.length+1) hk;have e4:=yDp (x.bC%rs.length+1) (show(0:Int)<rs.length by omega);have e5:=yDo x.at_ (show hg-lo+1≠0 by omega);have e6:=yDp x.at_ (show(0:Int)<hg-lo+1 by omega);unfold rJ yX;simp only;rw[yAI (by simp[hp]),yAI (by simp[hn]),yAI (by simp[hf])];exact a4L _ _ _ _ _ _ _ _ _ e1 e2 e3 e4 (aHN _ _) (aHN _ _) ym ym
theorem aQG(rs:List aX)(lo hg:Int):∀(l:List cM) (ns:List (List UInt8)),(∀s∈l,rJ rs lo hg s=0)->(ns++l.map cM.name).Nodup->K6 rs lo hg ns l=0
 | [],_,_,_=>rfl
 |r::t,ns,h,hn=>by
  have h0:=h r (yAZ ..);rw[yAX]at hn;have hnn:r.name∉ns:=λhm=>(yCm.1 hn).2.2 _ hm _ (yAZ ..) rfl
  unfold K6;rw[h0,aI6 hnn];simp only[ne_eq,yBr,yAO,yAx];exact aQG rs lo hg t (ns++[r.name]) (λq hq=>h q (yBB _ hq)) (by rw[yAi];exact hn)
theorem aQH(c:UInt8)(hc:c∈([82,83,67,68]:List UInt8))(n:Nat)(hn:n<=10):((List.range n).map λi=>[c,digit i]).Nodup:=by
 have h2:=aI7 c hc n ym;rw[show(List.range n).map (λi=>[c,digit i])=(List.range n).map λi=>[c,digit (i%10)]from yAG λi hi=>by rw[Nat.mod_eq_of_lt Dg]];exact h2
theorem aEj{α:Type}{l:List α}{i:Nat}(h:i<l.length)(d:α):l.getD i d∈l:=by
 rw[yAA,yAh h];exact yAm h
theorem a4O(rs:List aX)(hr:∀r∈rs,lU r=0)(h1:1<=rs.length)(h2:rs.length<=60)(b:sR)(hb:okB b)(hl:b.stops.length<=10)(i:Nat):tB rs (LA rs b i)=0:=by
 obtain⟨⟨a1,a2⟩,⟨a3,a4⟩,a5⟩:=hb;unfold tB LA;simp only;have hc:kB (36+b.low%12) (36+b.low%12+b.keys%9)=0:=aI5 ym ym ym;have hll:(yY rs (36+b.low%12) (36+b.low%12+b.keys%9) b.stops b.stops.length).length=b.stops.length:=by simp[yY]
 rw[yAI (by simp[hc]),yAI (by rw[hll];omega)];refine aQG _ _ _ _ [] (λs hs=>?_) ?_
 .obtain⟨j,hj,rfl⟩:=yAw.1 hs;have hj':=yAY.1 hj;exact a4M rs hr h1 h2 _ _ ym ym ym _ (a5 _ (aEj hj' _)) j ym
 .rw[yAQ,show(yY rs (36+b.low%12) (36+b.low%12+b.keys%9) b.stops b.stops.length).map cM.name=(List.range b.stops.length).map λi=>[83,digit i] by
   unfold yY;rw[yBc];rfl]
  exact aQH 83 yo _ hl
theorem aQI(rs:List aX):∀(l:List bY) (ns:List (List UInt8)),(∀d∈l,cV d.name=true/\tB rs d=0)->(ns++l.map bY.name).Nodup->yV rs ns l=0
 | [],_,_,_=>rfl
 |r::t,ns,h,hn=>by
  obtain⟨h0,h1⟩:=h r (yAZ ..);rw[yAX]at hn;have hnn:r.name∉ns:=λhm=>(yCm.1 hn).2.2 _ hm _ (yAZ ..) rfl
  unfold yV;rw[h0,h1,aI6 hnn];simp only[ne_eq,yBr,yAO,yAx,yDH];exact aQI rs t (ns++[r.name]) (λq hq=>h q (yBB _ hq)) (by rw[yAi];exact hn)
structure a4P (p:sS):Prop where
 r1:1<=p.aU.length
 r3:p.aU.length<=3
 d1:1<=p.bR.length
 d3:p.bR.length<=3
 c3:p.iL.length<=3
 s3:∀b∈p.bR,b.stops.length<=3
theorem aQJ{p:sS}(h:oO p=true):a4P p:=by
 simp only[oO,yAr,yBC]at h;obtain⟨⟨⟨⟨⟨hR1,hR3⟩,pE⟩,hD3⟩,hC3⟩,LB⟩:=h;exact⟨hR1,hR3,pE,hD3,hC3,λb hb=>by simpa using yAn.1 LB b hb⟩
theorem aQK{l:List mP}{n:Nat}(hn:n<=l.length){r:aX}(h:r∈fV l n):∃x∈l,∃i,i<n/\r=vZ x i:=by
 exact gz
theorem aI8{rs:List aX}{l:List sR}{n:Nat}(hn:n<=l.length){r:bY}(h:r∈kE rs l n):∃x∈l,∃i,i<n/\r=LA rs x i:=by
 exact gz
theorem a4Q{rs:List aX}{lo hg:Int}{l:List pI}{n:Nat}(hn:n<=l.length){r:cM}(h:r∈yY rs lo hg l n):∃x∈l,∃i,i<n/\r=yX rs lo hg x i:=by
 exact gz
theorem aQL(rs:List aX)(l:List sR)(n:Nat):(kE rs l n).length=n:=by simp[kE]
theorem aQM(l:List mP)(n:Nat):(fV l n).length=n:=by simp[fV]
theorem aQN(k:Nat)(l:List vB)(n:Nat):(lJ k l n).length=n:=by simp[lJ]
theorem a4I(p:sS)(hp:TV p)(hf:oO p=true):gZ (tD p)=0:=by
 obtain⟨r1,r3,d1,d3,c3,s3⟩:=aQJ hf;obtain⟨hpR,hpD,hpC⟩:=hp;have hrl:=aQM p.aU p.aU.length;have hra:∀r∈fV p.aU p.aU.length,lU r=0:=λr hr=>by
  obtain⟨x,hx,i,_,rfl⟩:=aQK (yAk _) hr;exact aQO x (hpR x hx) i
 have hrn:=a4R p.aU hpR p.aU.length (yAk _) ym;obtain⟨rs,hrs⟩:=gn (fV p.aU p.aU.length);have hdl:=aQL rs p.bR p.bR.length;have hcl:=aQN p.bR.length p.iL p.iL.length;have hnm:cV [79,114,103,97,110]=true:=zb;have hco:=a4S p.iL p.bR.length p.iL.length d1 ym;unfold gZ aAN tD;simp only;rw[hrs]at hrl hra hrn ⊢;have hdi:yV rs [] (kE rs p.bR p.bR.length)=0:=by
  refine aQI rs _ [] (λd hd=>?_) ?_
  .obtain⟨x,hx,i,hi,rfl⟩:=aI8 (yAk _) hd;exact⟨aEi i ym 68 yo,a4O rs hra ym ym x (hpD x hx) (by have:=s3 x hx;omega) i⟩
  .rw[yAQ,show(kE rs p.bR p.bR.length).map bY.name=(List.range p.bR.length).map λi=>[68,digit i] by
    unfold kE;rw[yBc];rfl]
   exact aQH 68 yo _ ym
 have hkl:(iJ (kE rs p.bR p.bR.length)).length=p.bR.length:=by
  unfold iJ;rw[yAe,hdl]
 have hcb:NR (iJ (kE rs p.bR p.bR.length))=false:=by
  unfold NR;rw[yCz];intro x hx;obtain⟨d,hd,rfl⟩:=yAw.1 hx;obtain⟨b,hb,i,hi,rfl⟩:=aI8 (yAk _) hd;obtain⟨⟨a1,a2⟩,⟨a3,a4⟩,a5⟩:=hpD b hb;have hc:kB (36+b.low%12) (36+b.low%12+b.keys%9)=0:=aI5 ym ym ym;simp[LA,hc]
 rw[yAI (by simp[hnm]),yAI ym,yAI (by simp[hrn]),yAI ym,yAI ym,yAI (by simp[hdi])];unfold NQ;rw[yAI ym,yAI (by simp[hcb]),hkl];exact hco
theorem a4T(k n sh lo hi at_ m other:Int):(tC k n sh lo hi at_ m other).length<=2/\∀g∈tC k n sh lo hi at_ m other,g.oB.length<=2:=by
 unfold tC;split
 .simp
 split
 .split
  .constructor
   .simp
   .intro g hg;simp only[yAR,yAQ,yAS,yBl,yBm]at hg;rcases hg with rfl|rfl
    .simp
    .simp only;split<;>simp
  .constructor
   .simp
   .intro g hg;simp only[yAQ,yAS,yBl,yBm]at hg;subst hg;simp only;split<;>simp
 split
 .simp
 .simp
structure Small (o:eK):Prop where
 nm:o.name.length<=100
 rl:o.aU.length<=60
 rk:∀r∈o.aU,r.name.length<=100/\r.o9.length<=100/\r.oA.length<=100
 dl:o.bR.length<=60
 dv:∀d∈o.bR,d.name.length<=100/\d.stops.length<=100/\∀s∈d.stops,s.name.length<=100/\s.yF.length<=100/\∀g∈s.yF,g.oB.length<=100
 cl:o.iL.length<=60
 cp:∀c∈o.iL,c.name.length<=100
theorem aQE(p:sS)(hf:oO p=true):Small (tD p):=by
 obtain⟨r1,r3,d1,d3,c3,s3⟩:=aQJ hf;unfold tD;refine⟨yo,by simp only[aQM];omega,λr hr=>?_,by simp only[aQL];omega,λd hd=>?_,by simp only[aQN];omega,λc hc=>?_⟩
 .obtain⟨x,hx,i,_,rfl⟩:=aQK (yAk _) hr;refine⟨by simp[vZ],?_,by simp[vZ,HZ];omega⟩;unfold vZ NU;simp only;rw[yAA];have h:∀t∈SU,t.length<=100:=yx;cases e:SU[(x.o9%3).toNat]? with
  |none=>simp
  |some t=>exact h t (yAE e)
 .obtain⟨b,hb,i,_,rfl⟩:=aI8 (yAk _) hd;refine⟨by simp[LA],?_,λs hs=>?_⟩
  .simp only[LA,yY,yAe,List.length_range];have:=s3 b hb;omega
  .obtain⟨x,hx,j,_,rfl⟩:=a4Q (yAk _) hs;obtain⟨k1,k2⟩:=a4T (x.kind%6) (x.bC%(fV p.aU p.aU.length).length) (E8 (mG x.bB) (P7 (fV p.aU p.aU.length) (x.bC%(fV p.aU p.aU.length).length).toNat)) (36+b.low%12) (36+b.low%12+b.keys%9) (36+b.low%12+x.at_%(36+b.low%12+b.keys%9-(36+b.low%12)+1))
    ((x.bC%(fV p.aU p.aU.length).length+1)%(fV p.aU p.aU.length).length) (E8 (mG x.bB) (P7 (fV p.aU p.aU.length) ((x.bC%(fV p.aU p.aU.length).length+1)%(fV p.aU p.aU.length).length).toNat))
   unfold yX;exact⟨yo,zi,λg hg=>by have:=k2 g hg;omega⟩
 .obtain⟨j,hj,rfl⟩:=yAw.1 hc;simp[WK]
theorem Small.vS{o:eK}(h:Small o):vS o:=by
 obtain⟨h1,h2,h3,h4,h5,h6,h7⟩:=h;refine⟨Cc,⟨λr hr=>?_,ym⟩,⟨ym,λd hd=>?_⟩,ym,λc hc=>?_⟩
 .obtain⟨a,b,c⟩:=h3 r hr;exact⟨by unfold okR ZW;omega,Cc,Cc⟩
 .obtain⟨a,b,c⟩:=h5 d hd;refine⟨Cc,ym,λs hs=>?_⟩;obtain⟨e,f,g⟩:=c s hs;exact⟨⟨ym,λq hq=>by have:=g q hq;unfold okG aFz;omega⟩,Cc⟩
 .have:=h7 c hc;unfold iA;omega
section
noncomputable def aCA:Nat->List PD->List U->Option (PD×List U):=entry (aY Em.GW Em.bool λp=>some (oO p))
theorem a4F(p:sS)(fl:Nat)(σ:List U):aCA fl [Em.GW.aA p] σ=some (.bool (oO p),σ):=by
 have e1:=Em.cJ (Em.GW.str p);unfold aCA entry aY;simp only[e1];rfl
noncomputable def gMk:Nat->List PD->List U->Option (PD×List U):=entry (aY Em.GW Em.fE λp=>bE (TV p/\oO p=true) (some (tD p)))
theorem a4G{p:sS}(h:TV p)(hf:oO p=true)(fl:Nat)(σ:List U):gMk fl [Em.GW.aA p] σ=some (Em.fE.aA (tD p),σ):=by
 have e1:=Em.cJ (Em.GW.str p);unfold gMk entry aY;simp only[e1];rw[dC ⟨h,hf⟩]
theorem aQD{s:UInt8}:∀ {ws:List (List UInt8)} {w:Dr},Lib.join (ws++[w]) [s]=if ws=[]then w else Lib.join ws [s]++s::w
 | [],w=>As
 | [v],w=>As
 |v::u::r,w=>by
  have ih:=aQD (s:=s) (ws:=u::r) (w:=w);have e1:Lib.join (v::u::r++[w]) [s]=v++s::Lib.join (u::r++[w]) [s]:=At;have e2:Lib.join (v::u::r) [s]=v++s::Lib.join (u::r) [s]:=At;rw[e1,ih,e2];simp
theorem a4H{rs:List aX}{lo hg:Int}{l:List cM}(h:∀s∈l,rJ rs lo hg s=0){s:cM}(hs:s∈l):s.name.length<=32/\(yO (s.num,s.den)).length<=41:=by
 obtain⟨_,hn2,hpt,_⟩:=(aAu _ _ _ _).1 (h s hs);exact⟨aBz hn2,aI0 hpt⟩
variable{E:aE}(hU:aG E)
include hU
set_option maxRecDepth 10000
theorem aRv(h0:E 5=none)(h1:E 11=some gKn)(h2:E 19=some aCA)(h3:E 20=some gMk)(h4:E 21=some aAp)(h5:E 15=some KL)(p:sS)(hp:TV p) :
  aJ prog E 5 [Em.GW.aA p] (.bool true):=by
 have k:=aZf;have fp:=a4F p;simp only[VD,eN]at fp;cases cp:oO p with
 |false=>
  rw[cp]at fp;simp only[VD,eN];refine aJ.aV 84 h0 func5 (h:=?_);refine aD (A4 h1 @k h2 fp) ?_;exact aa
 |true=>
 rw[cp]at fp;have mp:=a4G hp cp;have hR:=a4I p hp cp;have pO:R7 (tD p)=((tD p).bR.map EJ,0):=by unfold R7;rw[yAI (by simp[hR])]
 have hout:=aNm (aQE p cp).vS pO;have hst:=fun {d:bY} (hd:d∈(tD p).bR) {s:cM} (hs:s∈d.stops)=>(aNo hR hd hs).2.1
 have hnm:=fun {d:bY} (hd:d∈(tD p).bR)=>aBz (((NI _).1 hR).2.2.1.2.1 d hd).1
 have hwd:=fun {d:bY} (hd:d∈(tD p).bR) {s:cM} (hs:s∈d.stops)=>a4H ((R8 _ _).1 (((NI _).1 hR).2.2.1.2.1 d hd).2).2.2.1 hs
 have sa:=aQE p cp;obtain⟨o,ho⟩:=gn (tD p);rw[ho]at mp hout hst sa hnm hwd;obtain⟨on,rs,ds,cs⟩:=o;have b1:ds.length<=60:=sa.dl;have b3:∀d∈ds,d.stops.length<=100:=λd h=>(sa.dv d h).2.1
 simp only at hout hst hnm hwd;obtain⟨X,hX⟩:=gn (ds.map EJ);rw[hX]at hout;have hXl:X.length=ds.length:=by rw[<-hX,yAe]
 simp only[VD,yG,eN]at mp hout;simp only[VD,eN];obtain⟨OB,hOB⟩:=gn (U.box (.agg [.str on,.slice (sz 6 rs) (rs.map Em.bC.aA) .any,.slice (sz 5 ds) (ds.map Em.div.aA) .any,.slice (sz 5 cs) (cs.map Em.cC.aA) .any]));have q0:¬((X.length:Int)≠(ds.length:Int)):=ym;have q0':(X.length:Int)=(ds.length:Int):=ym;refine aJ.aV 84 h0 func5 (h:=?_);refine aD (A10 h1 @k h2 fp h3 @mp h4 hout q0 q0') ?_;rw[hOB];obtain⟨PB,hPB⟩:=gn (U.box (.agg [.slice (sz 9 p.aU) (p.aU.map Em.GV.aA) .any,.slice (sz 4 p.bR) (p.bR.map Em.OI.aA) .any,.slice (sz 4 p.iL) (p.iL.map Em.link.aA) .any]));rw[hPB];clear mp fp k hout hPB pO ho cp;refine Wp.dK (λm fr σ=>∃(i:Nat) (σ1:List U),∃gg:Nat->PD,(i+m=X.length/\σ1[1]?=some OB)/\fr=gg 0::gg 1::gg 2::.ptr 1 0::.slice (sz 1 X) (X.map Em.text.aA) .any::gg 5::.int .i64 i::gg 7::gg 8::gg 9::gg 10::gg 11::gg 12::gg 13::gg 14::gg 15::gg 16::gg 17::gg 18::gg 19::gg 20::gg 21::gg 22::gg 23::gg 24::gg 25::gg 26::gg 27::gg 28::gg 29::gg 30::gg 31::gg 32::gg 33::gg 34::gg 35::gg 36::gg 37::gg 38::gg 39::gg 40::gg 41::gg 42::gg 43::gg 44::gg 45::gg 46::gg 47::gg 48::gg 49::gg 50::gg 51::gg 52::gg 53::gg 54::gg 55::gg 56::gg 57::gg 58::gg 59::gg 60::gg 61::gg 62::gg 63::gg 64::gg 65::gg 66::gg 67::gg 68::gg 69::gg 70::gg 71::gg 72::gg 73::gg 74::gg 75::gg 76::gg 77::gg 78::gg 79::gg 80::gg 81::gg 82::gg 83::[]/\σ=σ1) ?_ (X.length) (by refine⟨0,[PB,OB],?_⟩;exact bV (⟨ym,rfl⟩))
 rintro m fr σ ⟨i,σ1,gg,hI,rfl,rfl⟩
 obtain⟨hm,hb0⟩:=hI;rw[<-hOB]at hb0;obtain⟨z1,z2,z3,z4,z5,z6⟩:=aB hb0
 by_cases hi:i<X.length
 .have q1:(i:Int)<(X.length:Int):=by omega
  have hi2:i<ds.length:=ym;have q1':(i:Int)<(ds.length:Int):=ym;obtain⟨g,hg⟩:=gn (ds[i]);have hgm:g∈ds:=hg▸yAm hi2
  have hgx:X[i]=EJ g:=by simp only[<-hX,List.getElem_map,hg]
  have wi:=HO (i:=i) ym;have aAO:=fun {s:cM} (hs:s∈g.stops)=>hst hgm hs
  have hsl:=b3 g hgm;have hdl:=hnm hgm;have hwl:=fun {s:cM} (hs:s∈g.stops)=>hwd hgm hs
  obtain⟨d1,d2,d3,d4,d5⟩:=g;simp only at aAO hsl hdl hwl;obtain⟨bx,hbx⟩:=gn (σ.length);obtain⟨u1,v1,x1⟩:=bO σ;have hbox:(σ++[U.box (.agg [.str d1,.bool d2,.int .i64 d3,.int .i64 d4,.slice (sz 4 d5) (d5.map Em.stop.aA) .any])])[bx]?=some (.box (.agg [.str d1,.bool d2,.int .i64 d3,.int .i64 d4,.slice (sz 4 d5) (d5.map Em.stop.aA) .any])):=by rw[<-hbx];exact u1 _
  obtain⟨y1,y2,y3,y4,y5,y6⟩:=aB hbox;have mD:=z3 [U.box (.agg [.str d1,.bool d2,.int .i64 d3,.int .i64 d4,.slice (sz 4 d5) (d5.map Em.stop.aA) .any])];obtain⟨M,hM⟩:∃M,M=m:=⟨_,rfl⟩;rw[<-hM]at hm ⊢;refine aD (A20 q1 q1' hi2 hg hbx u1 @v1 x1 y1 y2 y3 y4 y5 y6 z1 @z2 @z3 @z4 @z5 z6) ?_;refine Wp.dK (λm fr σ=>∃(j:Nat) (s2:List UInt8) (σ1:List U),∃gg:Nat->PD,(j+m=d5.length/\s2=d1++58::Lib.join ((d5.take j).map lL) [44]/\σ1[1]?=some (.box (.agg [.str on,.slice (sz 6 rs) (rs.map Em.bC.aA) .any,.slice (sz 5 ds) (ds.map Em.div.aA) .any,.slice (sz 5 cs) (cs.map Em.cC.aA) .any]))/\σ1[bx]?=some (.box (.agg [.str d1,.bool d2,.int .i64 d3,.int .i64 d4,.slice (sz 4 d5) (d5.map Em.stop.aA) .any])))/\fr=gg 0::gg 1::gg 2::.ptr 1 0::.slice (sz 1 X) (X.map Em.text.aA) .any::gg 5::.int .i64 i::.ptr bx 0::.str s2::.int .i64 j::gg 10::gg 11::gg 12::gg 13::gg 14::gg 15::gg 16::gg 17::gg 18::gg 19::gg 20::gg 21::gg 22::gg 23::gg 24::gg 25::gg 26::gg 27::gg 28::gg 29::gg 30::gg 31::gg 32::gg 33::gg 34::gg 35::gg 36::gg 37::gg 38::gg 39::gg 40::gg 41::gg 42::gg 43::gg 44::gg 45::gg 46::gg 47::gg 48::gg 49::gg 50::gg 51::gg 52::gg 53::gg 54::gg 55::gg 56::gg 57::gg 58::gg 59::gg 60::gg 61::gg 62::gg 63::gg 64::gg 65::gg 66::gg 67::gg 68::gg 69::gg 70::gg 71::gg 72::gg 73::gg 74::gg 75::gg 76::gg 77::gg 78::gg 79::gg 80::gg 81::gg 82::gg 83::[]/\σ=σ1) ?_ (d5.length) (by refine⟨0,d1++[58],σ++[U.box (.agg [.str d1,.bool d2,.int .i64 d3,.int .i64 d4,.slice (sz 4 d5) (d5.map Em.stop.aA) .any])],?_⟩;exact fL (⟨ym,As,mD,hbox⟩) @hbx)
  rintro m fr σ ⟨j,s2,σ1,gg,hI,rfl,rfl⟩
  obtain⟨hm2,hs2,hb0,hbox⟩:=hI;obtain⟨z1,z2,z3,z4,z5,z6⟩:=aB hb0;obtain⟨y1,y2,y3,y4,y5,y6⟩:=aB hbox
  by_cases hj:j<d5.length
  .have q2:(j:Int)<(d5.length:Int):=by omega
   obtain⟨st,hs⟩:=gn (d5[j]);have gp:=aAv (aAO (hs▸yAm hj));have htk:=KS hj;rw[hs]at htk;have wj:=HO (i:=j) ym;obtain⟨hw1,lN⟩:=hwl (hs▸yAm hj);obtain⟨s1,sx,sy,s4⟩:=st;simp only at gp hw1 lN;have hlen:s2.length<=33+j*81:=by
    have:=aI1 44 (n:=80) (ws:=(d5.take j).map lL) (λw hw=>by
     obtain⟨st,hsm,rfl⟩:=yAw.1 hw;obtain⟨k1,k2⟩:=hwl (yAy hsm);simp only[lL,yAK,yAa];omega)
    rw[yAe,yAt,yCC ym]at this;rw[hs2];simp only[yAa,yAK];omega
   have hsn:=aQD (s:=44) (ws:=(d5.take j).map lL) (w:=lL ⟨s1,sx,sy,s4⟩)
   by_cases hj0:j=0
   .have hs3:s2++([32]++s1++[32]++yO (sx,sy))=d1++58::Lib.join ((d5.take (j+1)).map lL) [44]:=by
     rw[htk,hs2,yAH,yAX,yBA,hsn,yAJ (by simp[hj0])];simp[hj0,Lib.join,List.intercalate,lL]
    have q3:¬((0:Int)<(j:Int)):=ym;have q4:¬(0<j):=ym;have q5:decide ((0:Int)<(j:Int))=false:=by simpa using hj0
    have q6:decide (0<j)=false:=by simpa using hj0
    refine aD yl ?_;refine aL.normal (m-1) ym (by refine⟨j+1,s2++([32]++s1++[32]++yO (sx,sy)),σ,?_⟩;exact fL (⟨ym,hs3,hb0,hbox⟩) @wj)
   .have q3:(0:Int)<(j:Int):=by omega
    have q4:0<j:=ym;have q5:decide ((0:Int)<(j:Int))=true:=by simpa using q3
    have q6:decide (0<j)=true:=by simpa using q4
    have hs3:s2++[44]++([32]++s1++[32]++yO (sx,sy))=d1++58::Lib.join ((d5.take (j+1)).map lL) [44]:=by
     rw[htk,hs2,yAH,yAX,yBA,hsn,yAI (by
      intro h;have:=yAP List.length h;rw[yAe,yAt,yAL]at this;omega)]
     simp[lL]
    refine aD yl ?_;refine aL.normal (m-1) ym (by refine⟨j+1,s2++[44]++([32]++s1++[32]++yO (sx,sy)),σ,?_⟩;exact fL (⟨ym,hs3,hb0,hbox⟩) @wj)
  .have q2:¬(j:Int)<(d5.length:Int):=by omega
   obtain rfl:j=d5.length:=ym;rw[yBz]at hs2;have hw:EJ ⟨d1,d2,d3,d4,d5⟩=s2:=by rw[hs2];rfl
   rw[hw]at hgx;refine aD (A11 q2 wi q1 hi hgx y1 y2 y3 y4 y5 y6) ?_;refine aL.normal (M-1) ym (by refine⟨i+1,σ,?_⟩;exact fL (⟨ym,by rw[<-hOB];exact hb0⟩) @wi)
 .have q1:¬(i:Int)<(X.length:Int):=by omega
  refine aD q1 ?_;exact aa
end
end Go.Kz
