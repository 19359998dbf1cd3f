/- Steps of the proof. -/
import Derived.Test.YtnogdlnjafblaaaGreatDoorH5
import Derived.Test.YtnogdlnjafblaaaGreatDoorI1
import Derived.Test.YtnogdlnjafblaaaGreatDoorH7
import Derived.Test.YtnogdlnjafblaaaGreatDoorI3
set_option linter.all false
set_option maxHeartbeats 40000000
set_option maxRecDepth 100000
namespace Go.Kz
open Go Go.Proofs
theorem WI(ns:List (List UInt8))(nm:List UInt8):kD ns nm=true↔nm∈ns:=by simp[kD]
theorem aDk{α:Type}{ns t:List α}{x:α}(h:(ns++x::t).Nodup):x∉ns:=λhx=>(yCm.1 h).2.2 x hx x (yAZ ..) rfl
theorem aN2:∀(l:List aX) (ns:List (List UInt8)),ns.Nodup->(tA ns l=0↔(∀r∈l,lU r=0)/\(ns++l.map aX.name).Nodup)
 | [],ns,h=>by simp[tA,h]
 |r::t,ns,h=>by
  unfold tA
  by_cases h1:lU r=0
  .rw[yAI zo]
   by_cases h2:kD ns r.name=true
   .rw[yAJ h2];exact⟨λe=>absurd e yx,λe=>absurd ((WI _ _).1 h2) (aDk (t:=t.map aX.name) e.2)⟩
   .rw[yAI h2];have hs:r.name∉ns:=λe=>h2 ((WI _ _).2 e)
    have hn:(ns++[r.name]).Nodup:=by
     rw[yCm];exact eg
    rw[aN2 t _ hn];simp[h1]
  .exact tv
theorem aN3(rs:List aX)(lo hg:Int):∀(l:List cM) (ns:List (List UInt8)),ns.Nodup->(K6 rs lo hg ns l=0↔(∀r∈l,rJ rs lo hg r=0)/\(ns++l.map cM.name).Nodup)
 | [],ns,h=>by simp[K6,h]
 |r::t,ns,h=>by
  unfold K6
  by_cases h1:rJ rs lo hg r=0
  .rw[yAI zo]
   by_cases h2:kD ns r.name=true
   .rw[yAJ h2];exact⟨λe=>absurd e yx,λe=>absurd ((WI _ _).1 h2) (aDk (t:=t.map cM.name) e.2)⟩
   .rw[yAI h2];have hs:r.name∉ns:=λe=>h2 ((WI _ _).2 e)
    have hn:(ns++[r.name]).Nodup:=by
     rw[yCm];exact eg
    rw[aN3 rs lo hg t _ hn];simp[h1]
  .exact tv
theorem aN4(rs:List aX):∀(l:List bY) (ns:List (List UInt8)),ns.Nodup->(yV rs ns l=0↔(∀r∈l,cV r.name=true/\tB rs r=0)/\(ns++l.map bY.name).Nodup)
 | [],ns,h=>by simp[yV,h]
 |r::t,ns,h=>by
  unfold yV
  by_cases h0:cV r.name=false
  .rw[yAJ h0];exact⟨λe=>absurd e yx,λe=>absurd (e.1 r (yAZ ..)).1 (by rw[h0];decide)⟩
  rw[yAI h0];have h0':cV r.name=true:=by simpa using h0
  by_cases h2:kD ns r.name=true
  .rw[yAJ h2];exact⟨λe=>absurd e yx,λe=>absurd ((WI _ _).1 h2) (aDk (t:=t.map bY.name) e.2)⟩
  .rw[yAI h2];have hs:r.name∉ns:=λe=>h2 ((WI _ _).2 e)
   by_cases h1:tB rs r=0
   .rw[yAI zo];have hn:(ns++[r.name]).Nodup:=by
     rw[yCm];exact eg
    rw[aN4 rs t _ hn];simp[h1,h0']
   .rw[yAJ h1];exact⟨λe=>absurd e h1,λe=>absurd (e.1 r (yAZ ..)).2 h1⟩
def aHw(k:Nat)(c:dY):Prop:=cV c.name=true/\(0<=c.iR/\c.iR<k/\0<=c.dst/\c.dst<k)/\(-127<=c.shift/\c.shift<=127)/\¬(c.iR=c.dst/\c.shift=0)
theorem aN5(k:Nat):∀(l pre:List dY),(pre.map dY.name).Nodup->(vY k pre l=0↔(∀c∈l,aHw k c)/\(pre.map dY.name++l.map dY.name).Nodup)
 | [],pre,h=>by simp[vY,h]
 |c::t,pre,h=>by
  unfold vY
  by_cases h0:cV c.name=false
  .rw[yAJ h0];exact⟨λe=>absurd e yx,λe=>absurd (e.1 c (yAZ ..)).1 (by rw[h0];decide)⟩
  rw[yAI h0];have h0':cV c.name=true:=by simpa using h0
  have hm:pre.any (iM c.name)=true↔c.name∈pre.map dY.name:=by
   simp[iM]
  by_cases h2:pre.any (iM c.name)=true
  .rw[yAJ h2];exact⟨λe=>absurd e yx,λe=>absurd (hm.1 h2) (aDk (t:=t.map dY.name) e.2)⟩
  rw[yAI h2];have hs:c.name∉pre.map dY.name:=λe=>h2 (hm.2 e)
  by_cases h3:c.iR<0\/(k:Int)<=c.iR\/c.dst<0\/(k:Int)<=c.dst
  .rw[yAJ h3];exact⟨λe=>absurd e yx,λe=>by have:=(e.1 c (yAZ ..)).2.1;omega⟩
  rw[yAI h3]
  by_cases h4:c.shift < -127\/127<c.shift
  .rw[yAJ h4];exact⟨λe=>absurd e yx,λe=>by have:=(e.1 c (yAZ ..)).2.2.1;omega⟩
  rw[yAI h4]
  by_cases h5:c.iR=c.dst/\c.shift=0
  .rw[yAJ h5];exact⟨λe=>absurd e yx,λe=>absurd h5 (e.1 c (yAZ ..)).2.2.2⟩
  rw[yAI h5];have hn:((pre++[c]).map dY.name).Nodup:=by
   rw[yAH,yCm];exact eg
  rw[aN5 k t _ hn];have hc:aHw k c:=⟨h0',ym,ym,h5⟩;simp[hc]
theorem aAu(rs:List aX)(lo hg:Int)(s:cM):rJ rs lo hg s=0↔HV rs lo hg=0/\cV s.name=true/\mI s.num s.den=0/\HS rs.length lo hg s.yF=0:=by
 unfold rJ
 by_cases h1:HV rs lo hg=0
 .rw[yAI zo]
  by_cases h2:cV s.name=false
  .rw[yAJ h2];exact⟨λe=>absurd e yx,λe=>absurd e.2.1 (by rw[h2];decide)⟩
  rw[yAI h2]
  by_cases h3:mI s.num s.den=0
  .rw[yAI Ax];exact⟨λe=>⟨h1,Bv,h3,e⟩,λe=>e.2.2.2⟩
  .rw[yAJ h3];exact⟨λe=>absurd e h3,λe=>absurd e.2.2.1 h3⟩
 .exact uu
theorem R8(rs:List aX)(d:bY):tB rs d=0↔kB d.low d.high=0/\d.stops.length<=60/\(∀s∈d.stops,rJ rs d.low d.high s=0)/\(d.stops.map cM.name).Nodup:=by
 unfold tB
 by_cases h1:kB d.low d.high=0
 .rw[yAI zo]
  by_cases h2:60<d.stops.length
  .rw[yAJ h2];exact⟨λe=>absurd e yx,λe=>ym⟩
  rw[yAI h2,aN3 rs d.low d.high d.stops [] yo];exact⟨λe=>⟨h1,ym,e.1,by simpa using e.2⟩,λe=>⟨e.2.2.1,by simpa using e.2.2.2⟩⟩
 .exact uu
theorem NI(o:eK):gZ o=0↔cV o.name=true/\(o.aU.length<=60/\(∀r∈o.aU,lU r=0)/\(o.aU.map aX.name).Nodup)/\((o.bR.length≠0/\o.bR.length<=8)/\(∀d∈o.bR,cV d.name=true/\tB o.aU d=0)/\(o.bR.map bY.name).Nodup)/\o.iL.length<=40/\(∀c∈o.iL,aHw o.bR.length c)/\(o.iL.map dY.name).Nodup:=by
 unfold gZ
 by_cases h1:cV o.name=false
 .rw[yAJ h1];exact⟨λe=>absurd e yx,λe=>absurd e.1 (by rw[h1];decide)⟩
 rw[yAI h1];have h1':cV o.name=true:=zo
 by_cases h2:60<o.aU.length
 .rw[yAJ h2];exact⟨λe=>absurd e yx,λe=>by have:=e.2.1.1;omega⟩
 rw[yAI h2];have hr:=aN2 o.aU [] yo;rw[yAQ]at hr
 by_cases h3:tA [] o.aU=0
 .rw[yAI Ax];have h3':=hr.1 h3;unfold aAN
  by_cases h4:o.bR.length=0
  .rw[yAJ h4];exact⟨λe=>absurd e yx,λe=>absurd h4 e.2.2.1.1.1⟩
  rw[yAI h4]
  by_cases h5:8<o.bR.length
  .rw[yAJ h5];exact⟨λe=>absurd e yx,λe=>by have:=e.2.2.1.1.2;omega⟩
  rw[yAI h5];have hd:=aN4 o.aU o.bR [] yo;rw[yAQ]at hd
  by_cases h6:yV o.aU [] o.bR=0
  .rw[yAI (by simpa using h6)];have h6':=hd.1 h6;unfold NQ;have hk:(iJ o.bR).length=o.bR.length:=by unfold iJ;rw[yAe]
   rw[hk]
   by_cases h7:40<o.iL.length
   .rw[yAJ (.inr h7)];exact⟨λe=>absurd e yx,λe=>by have:=e.2.2.2.1;omega⟩
   rw[yAI ym];have hc:NR (iJ o.bR)=false:=by
    unfold NR iJ;rw[yCz];intro x hx;obtain⟨d,hd,rfl⟩:=yAw.1 hx;simp[((R8 _ _).1 (h6'.1 d hd).2).1]
   rw[hc,yAI yx];have hq:=aN5 o.bR.length o.iL [] yo;rw[yBA,yAQ]at hq;rw[hq];exact⟨λe=>⟨h1',⟨ym,h3'⟩,⟨⟨h4,ym⟩,h6'⟩,ym,e⟩,λe=>e.2.2.2.2⟩
  .rw[yAJ h6];exact⟨λe=>absurd e h6,λe=>absurd (hd.2 e.2.2.1.2) h6⟩
 .rw[yAJ h3];exact⟨λe=>absurd e h3,λe=>absurd (hr.2 e.2.1.2) h3⟩
structure aN6 (o:eK):Prop where
 name:iA o.name
 aU:∀r∈o.aU,WB r
 bR:∀d∈o.bR,SE d
 iL:∀c∈o.iL,iA c.name
def aHx(o:eK):Prop:=gZ o=0/\aN6 o
section
def wT(w:List UInt8):Tk:=⟨1,w,0,(0,0),0,0⟩
def nT(n:Int):Tk:=⟨2,Lib.itoa n,n,(0,0),0,0⟩
def fT(x y:Int):Tk:=⟨3,iI x.toNat y.toNat++[39],0,(x,y),0,0⟩
def eT:Tk:=⟨6,[10],0,(0,0),0,0⟩
def bQ(L:List (List Tk)):List Tk:=L.flatMap (·++[eT])
def kR(L:List (List Tk)):List UInt8:=L.flatMap λx=>lI x++[10]
theorem vV(x:List Tk)(L:List (List Tk)):bQ (x::L)=x++eT::bQ L:=by simp[bQ]
theorem V4(a b:List (List Tk)):bQ (a++b)=bQ a++bQ b:=by simp[bQ]
theorem aHl{α:Type}(f:α->List (List Tk))(l:List α):bQ (l.flatMap f)=l.flatMap λa=>bQ (f a):=by simp[bQ,List.flatMap_assoc]
theorem aHm{α:Type}(f:α->List Tk)(l:List α):bQ (l.map f)=l.flatMap λa=>f a++[eT]:=by simp[bQ,List.flatMap_map]
def WC(L:List (List Tk)):Prop:=∀x∈L,x≠[]/\∀t∈x,pC t
theorem aNI:∀ {L:List (List Tk)},WC L->aAE (bQ L)
 | [],_=>.nil
 |x::L,h=>by
  rw[vV];exact .cons (h x (yAZ ..)).1 (h x (yAZ ..)).2 rfl rfl rfl rfl (aNI λy hy=>h y (yBB _ hy))
theorem aNJ:∀ {L:List (List Tk)},WC L->NN (some 6) (bQ L)=kR L
 | [],_=>rfl
 |x::L,h=>by
  rw[vV,aHn rfl (h x (yAZ ..)).1 (h x (yAZ ..)).2,aNJ λy hy=>h y (yBB _ hy)];simp[kR]
theorem WD{u t:Tk}(h:K3 u t=true):u.kind=t.kind/\u.text=t.text/\u.num=t.num/\u.bB=t.bB:=by
 simpa [K3]using h
def Ms(l:List Tk)(n:Nat)(ts:List Tk):Prop:=∀i t,ts[i]?=some t->∃u,l[n+i]?=some u/\K3 u t=true
theorem Ms.cons{l:List Tk}{n:Nat}{t:Tk}{ts:List Tk}(h:Ms l n (t::ts)):(∃u,l[n]?=some u/\K3 u t=true)/\Ms l (n+1) ts:=by
 refine⟨by simpa using h 0 t rfl,λi u hu=>?_⟩;have:=h (i+1) u Am
 rwa [show n+1+i=n+(i+1) by omega]
theorem Ms.app{l:List Tk}{n:Nat}{a b:List Tk}(h:Ms l n (a++b)):Ms l n a/\Ms l (n+a.length) b:=by
 refine⟨λi t ht=>h i t (by rw[yAg (yA.1 ht).1];exact ht),λi t ht=>?_⟩;have:=h (a.length+i) t (by rw[yCo ym];simpa using ht)
 rwa [show n+a.length+i=n+(a.length+i) by omega]
theorem Ms.of:∀ {b l:List Tk},rG b l=true->Ms b 0 l
 | [],[],_=>λi t h=>Aa
 | [],_::_,h=>by simp[rG]at h
 |_::_,[],h=>by simp[rG]at h
 |x::b,y::l,h=>by
  simp only[rG,yAr]at h;intro i t ht;cases i with
  |zero=>
   simp only[yBD,yAb]at ht;subst ht;exact⟨x,rfl,h.1⟩
  |succ i=>
   obtain⟨u,h1,h2⟩:=Ms.of h.2 i t (by simpa using ht);exact⟨u,by rw[yAp]at h1 ⊢;simpa using h1,h2⟩
theorem aDe{l:List Tk}{n:Nat}{t:Tk}{ts:List Tk}(h:Ms l n (t::ts)):∃u,mJ t.kind l n=.ok (u,n+1)/\u.text=t.text/\u.num=t.num/\u.bB=t.bB:=by
 obtain⟨⟨u,hu,he⟩,_⟩:=h.cons;obtain⟨e1,e2,e3,e4⟩:=WD he;refine⟨u,?_,e2,e3,e4⟩;have:bS (λx=>decide (x.kind=t.kind)) l n=((u,true),n+1):=by simp[bS,hu,e1]
 simp[mJ,this]
theorem PY{l:List Tk}{n:Nat}{w:Dr}{ts:List Tk}(h:Ms l n (wT w::ts)):rE l n=.ok (w,n+1):=by
 obtain⟨u,h1,h2,_⟩:=aDe h;simp only[rE,aR,show mJ 1 l n=_ from h1,eG,h2,wT]
theorem K4{l:List Tk}{n:Nat}{k:Int}{ts:List Tk}(h:Ms l n (nT k::ts)):rH l n=.ok (k,n+1):=by
 obtain⟨u,h1,_,h2,_⟩:=aDe h;simp only[rH,aR,show mJ 2 l n=_ from h1,eG,h2,nT]
theorem NO{l:List Tk}{n:Nat}{ts:List Tk}(h:Ms l n (eT::ts)):rI l n=.ok ((),n+1):=by
 obtain⟨u,h1,_⟩:=aDe h;simp only[rI,aR,show mJ 6 l n=_ from h1,eG]
theorem aHo{l:List Tk}{n:Nat}{w:Dr}{ts:List Tk}(h:Ms l n (wT w::ts)):∃u,bS (isWord 1 w) l n=((u,true),n+1):=by
 obtain⟨⟨u,hu,he⟩,_⟩:=h.cons;obtain⟨e1,e2,e3,e4⟩:=WD he;exact⟨u,by simp[bS,hu,isWord,e1,e2,wT]⟩
theorem yQ{l:List Tk}{n:Nat}{w:Dr}{ts:List Tk}(h:Ms l n (wT w::ts)):mL w l n=.ok ((),n+1):=by
 obtain⟨u,h1⟩:=aHo h;simp[mL,h1]
theorem aNK{l:List Tk}{n:Nat}{w:Dr}{ts:List Tk}(h:Ms l n (wT w::ts)):vW w l n=.ok (true,n+1):=by
 obtain⟨u,h1⟩:=aHo h;simp[vW,h1]
theorem aNL{l:List Tk}{n:Nat}{w:Dr}{t:Tk}{ts:List Tk}(h:Ms l n (t::ts))(hn:t.kind≠1\/t.text≠w):bS (isWord 1 w) l n=((bL,false),n):=by
 obtain⟨⟨u,hu,he⟩,_⟩:=h.cons;obtain⟨e1,e2,e3,e4⟩:=WD he;have:isWord 1 w u=false:=by
  simp only[isWord,e1,e2];rcases hn with h|h<;>simp[h]
 simp[bS,hu,this]
theorem aNM{l:List Tk}{n:Nat}{w:Dr}{t:Tk}{ts:List Tk}(h:Ms l n (t::ts))(hn:t.kind≠1\/t.text≠w):vW w l n=.ok (false,n):=by
 simp[vW,aNL h hn]
theorem aNN{l:List Tk}{n:Nat}{x y:Int}{ts:List Tk}(h:Ms l n (wT [102,101,101,116]::fT x y::ts)):yR l n=.ok ((x,y),n+2):=by
 obtain⟨u,h1,_,_,h2⟩:=aDe h.cons.2;simp only[yR,aR,yQ h,show mJ 3 l (n+1)=_ from h1,eG,h2,fT]
theorem aNO:∀ {ns:List (List UInt8)} {i:Nat} {w:Dr},ns.Nodup->ns[i]?=some w->placeOf w ns=i
 | [],i,w,_,h=>Aa
 |x::ns,0,w,_,h=>by
  simp only[yBD,yAb]at h;simp[placeOf,h]
 |x::ns,i+1,w,hn,h=>by
  rw[yBT]at h;have hi:=aNO (List.nodup_cons.1 hn).2 h;have hne:x≠w:=λe=>(List.nodup_cons.1 hn).1 (e▸yAE h)
  unfold placeOf;rw[yAI hne,hi,yAI ym];omega
theorem aAF{l:List Tk}{n:Nat}{ns:List (List UInt8)}{i:Int}{ts:List Tk}(hi:0<=i/\i<ns.length)(hn:ns.Nodup)(h:Ms l n (wT (ns.getD i.toNat [])::ts)):nG ns l n=.ok (i,n+1):=by
 obtain⟨⟨u,hu,he⟩,_⟩:=h.cons;obtain⟨e1,e2,e3,e4⟩:=WD he;have hp:placeOf u.text ns=i:=by
  rw[e2];have:=aNO (i:=i.toNat) (w:=ns.getD i.toNat []) hn (by rw[yAA,yAh ym];rfl);simp only[wT];omega
 simp[nG,lV,hu,e1,hp,wT,Int.not_lt.2 hi.1]
theorem aNP{t:Tk}(ht:t.kind≠2):∀ {ws:List Int} {l ts:List Tk} {n:Nat},Ms l n (ws.map nT++t::ts)->oF (l.drop n)=ws
 | [],l,ts,n,h=>by
   obtain⟨⟨u,hu,he⟩,_⟩:=h.cons;obtain⟨e1,_⟩:=WD he;have hl:=(yA.1 hu).1;have hu2:=(yA.1 hu).2;rw[yAq hl];unfold oF;rw[yAI (by rw[hu2,e1];exact ht)]
 |w::ws,l,ts,n,h=>by
  obtain⟨⟨u,hu,he⟩,h2⟩:=h.cons;obtain⟨e1,e2,e3,e4⟩:=WD he;have hl:=(yA.1 hu).1;have hu2:=(yA.1 hu).2;rw[yAq hl];unfold oF;rw[yAJ (by rw[hu2,e1];rfl),aNP ht h2,hu2,e3];rfl
theorem aZZ{l:List Tk}{n:Nat}{t:Tk}{ts:List Tk}{ws:List Int}(ht:t.kind≠2)(h:Ms l n (ws.map nT++t::ts)):HR l n=.ok (ws,n+ws.length):=by
 simp only[HR,aNP ht h]
def kC(l:List Tk)(n:Nat)(S:List (List UInt8)):Prop:=∀w∈S,(bS (isWord 1 w) l n).1.2=false
theorem kC.word{l:List Tk}{n:Nat}{w:Dr}{ts:List Tk}{S:List (List UInt8)}(h:Ms l n (wT w::ts))(hw:w∉S):kC l n S:=λv hv=>by
 rw[aNL h (.inr λe=>hw (by rw[show w=v from e];exact hv))]
theorem kC.fO{l:List Tk}{n:Nat}{S:List (List UInt8)}(h:l.length<=n):kC l n S:=λv _=>by simp[bS,yBo h]
theorem kC.sub{l:List Tk}{n:Nat}{S T:List (List UInt8)}(h:kC l n T)(hs:∀w∈S,w∈T):kC l n S:=λv hv=>h v (hs v hv)
theorem WE{α:Type}{w:Dr}{body:Pm α}{S:List (List UInt8)}{full:α->List Tk}(hS:w∉S)(hf:∀a,∃ts,full a=wT w::ts){l:List Tk} :
  ∀ {asg:List α} {n:Nat} {X:List Tk},asg.flatMap full=X->(∀a∈asg,∀n,Ms l n (full a)->kC l (n+(full a).length) S->body l (n+1)=.ok (a,n+(full a).length))->Ms l n X->kC l (n+X.length) (w::S)->n+X.length<=l.length ->
    oT w body l n=.ok (asg,n+X.length):=by
 have key:∀(asg:List α) (n:Nat) (f:Nat) (acc:List α),(∀a∈asg,∀n,Ms l n (full a)->kC l (n+(full a).length) S->body l (n+1)=.ok (a,n+(full a).length))->Ms l n (asg.flatMap full)->kC l (n+(asg.flatMap full).length) (w::S)->(asg.flatMap full).length<f ->
   oU w body f acc l n=.ok (acc++asg,n+(asg.flatMap full).length):=by
  intro asg
  induction asg with
  |nil=>
   intro n f acc _ _ hx SH;obtain⟨f,rfl⟩:∃g,f=g+1:=⟨f-1,by simp at SH;omega⟩;have:=hx w (yAZ ..);simp only[yDn,yAL,yCc]at this;unfold oU;rw[this];simp
  |cons a asg ih=>
   intro n f acc hb hm hx SH;obtain⟨f,rfl⟩:∃g,f=g+1:=⟨f-1,ym⟩;rw[yBg]at hm hx SH ⊢;obtain⟨h1,h2⟩:=hm.app;obtain⟨ts,hts⟩:=hf a;have h1':=h1;rw[hts]at h1';obtain⟨u,hu⟩:=aHo h1';rw[yAa]at hx SH ⊢;rw[<-yCr]at hx ⊢;have hN:kC l (n+(full a).length) S:=by
    cases asg with
    |nil=>exact kC.sub Ac λv hv=>yBB _ hv
    |cons b bs=>
     obtain⟨us,hus⟩:=hf b;rw[yBg,hus]at h2;exact kC.word h2 hS
   unfold oU;rw[hu];simp only[yAM,hb a (yAZ ..) n h1 hN];rw[ih (n+(full a).length) f (acc++[a]) (λb hb'=>hb b (yBB _ hb')) h2 hx (by
    have:0<(full a).length:=by rw[hts];simp
    omega),yAi]
   rfl
 rintro asg n X rfl hb hm hx hl
 unfold oT;rw[key asg n (l.length+1-n) [] hb hm hx ym,yAQ]
abbrev FF:List UInt8:=[111,114,103,97,110]
abbrev NK:List UInt8:=[114,97,110,107]
abbrev PT:List UInt8:=[100,105,118,105,115,105,111,110]
abbrev HQ:List UInt8:=[115,116,111,112]
abbrev s8:List UInt8:=[107,101,121,115]
abbrev FI:List UInt8:=[100,114,97,119]
abbrev SC:List UInt8:=[99,111,117,112,108,101,114]
abbrev V5:List UInt8:=[116,111,110,101]
abbrev NL:List UInt8:=[102,101,101,116]
abbrev V6:List UInt8:=[102,105,114,115,116]
abbrev V7:List UInt8:=[119,105,110,100]
abbrev V8:List UInt8:=[112,101,100,97,108]
abbrev aAx:List UInt8:=[102,114,111,109]
abbrev aAy:List UInt8:=[116,111]
abbrev aAz:List UInt8:=[115,104,105,102,116]
abbrev V9:List UInt8:=[116,104,114,111,117,103,104]
def kA(r:aX):List Tk:=wT NK::wT r.name::wT V5::wT r.o9::wT NL::fT r.num r.den::wT V6::nT r.first::wT V7::r.oA.map nT
def lS(ns:List (List UInt8))(d:gU):List Tk:=[wT FI,wT (ns.getD d.bC.toNat []),nT d.shift]
def iW(ns:List (List UInt8))(g:jV):List (List Tk):=[wT s8,nT g.lo,nT g.hi]::g.oB.map (lS ns)
def dQ(ns:List (List UInt8))(s:cM):List (List Tk):=[wT HQ,wT s.name,wT NL,fT s.num s.den]::s.yF.flatMap (iW ns)
def KT(d:bY):List Tk:=wT PT::wT d.name::((if d.RM=true then [wT V8]else [])++[wT s8,nT d.low,nT d.high])
def iN(ns:List (List UInt8))(d:bY):List (List Tk):=KT d::d.stops.flatMap (dQ ns)
def iV(ns:List (List UInt8))(c:dY):List Tk:=wT SC::wT c.name::wT aAx::wT (ns.getD c.iR.toNat [])::wT aAy::wT (ns.getD c.dst.toNat [])::wT aAz::nT c.shift::(if c.M9=true then [wT V9]else [])
def vT(o:eK):List (List Tk):=[wT FF,wT o.name]::(o.aU.map kA++(o.bR.flatMap (iN (o.aU.map aX.name))++o.iL.map (iV (o.bR.map bY.name))))
def yM(o:eK):List UInt8:=kR (vT o)
def NJ(ns:List (List UInt8))(s:cM):List UInt8:=kR (dQ ns s)
def In(k:Nat)(i:Int):Prop:=0<=i/\i<k
def aAA(k:Nat)(s:cM):Prop:=∀g∈s.yF,∀d∈g.oB,In k d.bC
section
variable{ns:List (List UInt8)}(hn:ns.Nodup)
include hn
theorem aZ0{d:gU}(hd:In ns.length d.bC){l:List Tk}{n:Nat}(h:Ms l n (lS ns d++[eT])):eI ns l (n+1)=.ok (d,n+(lS ns d++[eT]).length):=by
 have h1:=h.cons.2;have h2:=h1.cons.2;have h3:=h2.cons.2;simp only[eI,aR,aAF hd hn h1,K4 h2,NO h3,eG];rfl
theorem aZ1{g:jV}(hg:∀d∈g.oB,In ns.length d.bC){l:List Tk}{n:Nat}(h:Ms l n (bQ (iW ns g)))(hl:n+(bQ (iW ns g)).length<=l.length)(hx:kC l (n+(bQ (iW ns g)).length) [FI]):lT ns l (n+1)=.ok (g,n+(bQ (iW ns g)).length):=by
 unfold iW at h hx hl ⊢;rw[vV,aHm]at h hx hl ⊢;have h1:=h.cons.2;have h2:=h1.cons.2;have h3:=h2.cons.2;have h4:=h3.cons.2;have e:n+([wT s8,nT g.lo,nT g.hi]++eT::g.oB.flatMap λa=>lS ns a++[eT]).length=n+1+1+1+1+(g.oB.flatMap λa=>lS ns a++[eT]).length:=by simp only[yAa,yAK,yAL];omega
 rw[e]at hx hl ⊢;have hm:=WE (w:=FI) (body:=eI ns) (S:=[]) (full:=λa=>lS ns a++[eT]) yo (λa=>⟨_,rfl⟩) rfl (λa ha n hm _=>aZ0 hn (hg a ha) hm) h4 hx hl;simp only[lT,aR,K4 h1,K4 h2,NO h3,hm,eG]
theorem aZ2{s:cM}(hs:aAA ns.length s){l:List Tk}{n:Nat}(h:Ms l n (bQ (dQ ns s)))(hl:n+(bQ (dQ ns s)).length<=l.length)(hx:kC l (n+(bQ (dQ ns s)).length) [s8,FI]):gB ns l (n+1)=.ok (s,n+(bQ (dQ ns s)).length):=by
 unfold dQ at h hx hl ⊢;rw[vV,aHl]at h hx hl ⊢;have h1:=h.cons.2;have h2:=h1.cons.2;have h4:=h2.cons.2.cons.2;have h5:=h4.cons.2;have e:n+([wT HQ,wT s.name,wT NL,fT s.num s.den]++eT::s.yF.flatMap λa=>bQ (iW ns a)).length=n+1+1+1+1+1+(s.yF.flatMap λa=>bQ (iW ns a)).length:=by simp only[yAa,yAK,yAL];omega
 rw[e]at hx hl ⊢;have hm:=WE (w:=s8) (body:=lT ns) (S:=[FI]) (full:=λa=>bQ (iW ns a)) yx (λa=>by unfold iW;rw[vV];exact⟨_,rfl⟩) rfl (λa ha n hm hxx=>aZ1 hn (hs a ha) hm (by
  have hmm:0<(bQ (iW ns a)).length:=by unfold iW;rw[vV];simp
  obtain⟨u,hu,_⟩:=hm ((bQ (iW ns a)).length-1) _ (yAh ym);have:=(yA.1 hu).1;omega) hxx) h5 hx hl
 simp only[gB,aR,PY h1,aNN h2,show n+1+1+2=n+1+1+1+1 from rfl,NO h4,hm,eG]
end
theorem Ms.len{l:List Tk}{n:Nat}{ts:List Tk}(h:Ms l n ts)(h0:0<ts.length):n+ts.length<=l.length:=by
 obtain⟨u,hu,_⟩:=h (ts.length-1) _ (yAh ym);have:=(yA.1 hu).1;omega
theorem aZ3{ns:List (List UInt8)}{s:cM}:0<(bQ (dQ ns s)).length:=by unfold dQ;rw[vV];simp
theorem aZ4{ns:List (List UInt8)}{s:bY}:0<(bQ (iN ns s)).length:=by unfold iN;rw[vV,yAa,yAK];omega
theorem aZ5{ns:List (List UInt8)}(hn:ns.Nodup){d:bY}(hs:∀s∈d.stops,aAA ns.length s){l:List Tk}{n:Nat}(h:Ms l n (bQ (iN ns d)))(hx:kC l (n+(bQ (iN ns d)).length) [HQ,s8,FI]):jM ns l (n+1)=.ok (d,n+(bQ (iN ns d)).length):=by
 have hl:=h.len aZ4;unfold iN at h hx hl ⊢;rw[vV,aHl]at h hx hl ⊢;obtain⟨nm,pd,lo,hi,ss⟩:=d;simp only[KT]at h hx hl ⊢;have many:∀k,Ms l k (ss.flatMap λa=>bQ (dQ ns a))->kC l (k+(ss.flatMap λa=>bQ (dQ ns a)).length) [HQ,s8,FI]->k+(ss.flatMap λa=>bQ (dQ ns a)).length<=l.length->oT HQ (gB ns) l k=.ok (ss,k+(ss.flatMap λa=>bQ (dQ ns a)).length):=λk h5 hx hl=>
  WE (w:=HQ) (body:=gB ns) (S:=[s8,FI]) (full:=λa=>bQ (dQ ns a)) yx (λa=>by unfold dQ;rw[vV];exact⟨_,rfl⟩) rfl (λa ha n hm hxx=>aZ2 hn (hs a ha) hm (hm.len aZ3) hxx) h5 hx hl
 cases pd with
 |true=>
  simp only[yAM,yAR,yAQ]at h hx hl ⊢;have h1:=h.cons.2;have h2:=h1.cons.2;have h3:=h2.cons.2;have h4:=h3.cons.2;have h5:=h4.cons.2;have h6:=h5.cons.2;have h7:=h6.cons.2;have e:n+(wT PT::wT nm::wT V8::wT s8::nT lo::nT hi::eT::ss.flatMap λa=>bQ (dQ ns a)).length=n+1+1+1+1+1+1+1+(ss.flatMap λa=>bQ (dQ ns a)).length:=by simp only[yAK];omega
  rw[e]at hx hl ⊢;simp only[jM,aR,PY h1,aNK h2,yQ h3,K4 h4,K4 h5,NO h6,many _ h7 hx hl,eG]
 |false=>
  simp only[yAx,yAO,yAR,yAQ]at h hx hl ⊢;have h1:=h.cons.2;have h2:=h1.cons.2;have h3:=h2.cons.2;have h4:=h3.cons.2;have h5:=h4.cons.2;have h6:=h5.cons.2;have e:n+(wT PT::wT nm::wT s8::nT lo::nT hi::eT::ss.flatMap λa=>bQ (dQ ns a)).length=n+1+1+1+1+1+1+(ss.flatMap λa=>bQ (dQ ns a)).length:=by simp only[yAK];omega
  rw[e]at hx hl ⊢;simp only[jM,aR,PY h1,aNM (w:=V8) h2 (.inr yx),yQ h2,K4 h3,K4 h4,NO h5,many _ h6 hx hl,eG]
theorem aZ6{r:aX}{l:List Tk}{n:Nat}(h:Ms l n (kA r++[eT])):iX l (n+1)=.ok (r,n+(kA r++[eT]).length):=by
 obtain⟨nm,tn,nu,de,fi,wd⟩:=r;simp only[kA,yAR]at h ⊢;have h1:=h.cons.2;have h2:=h1.cons.2;have h3:=h2.cons.2;have h4:=h3.cons.2;have h6:=h4.cons.2.cons.2;have h7:=h6.cons.2;have h8:=h7.cons.2;have h9:=h8.cons.2;have h10:=h9.app.2;rw[yAe]at h10;have e:n+(wT NK::wT nm::wT V5::wT tn::wT NL::fT nu de::wT V6::nT fi::wT V7::(wd.map nT++[eT])).length=n+1+1+1+1+1+1+1+1+1+wd.length+1:=by simp only[yAK,yAa,yAe,yAL];omega
 rw[e];simp only[iX,aR,PY h1,yQ h2,PY h3,aNN h4,show n+1+1+1+1+2=n+1+1+1+1+1+1 from rfl,yQ h6,K4 h7,yQ h8,aZZ yx h9,NO h10,eG]
theorem aZ7{ns:List (List UInt8)}(hn:ns.Nodup){c:dY}(h1:In ns.length c.iR)(h2:In ns.length c.dst){l:List Tk}{n:Nat}(h:Ms l n (iV ns c++[eT])):iF ns l (n+1)=.ok (c,n+(iV ns c++[eT]).length):=by
 obtain⟨nm,a,b,sh,th⟩:=c;simp only[iV,yAR]at h h1 h2 ⊢;have g1:=h.cons.2;have g2:=g1.cons.2;have g3:=g2.cons.2;have g4:=g3.cons.2;have g5:=g4.cons.2;have g6:=g5.cons.2;have g7:=g6.cons.2;have g8:=g7.cons.2;cases th with
 |true=>
  simp only[yAM,yAR,yAQ]at g8 ⊢;simp only[iF,aR,PY g1,yQ g2,aAF h1 hn g3,yQ g4,aAF h2 hn g5,yQ g6,K4 g7,aNK g8,NO g8.cons.2,eG];rfl
 |false=>
  simp only[yAx,yAO,yAQ]at g8 ⊢;simp only[iF,aR,PY g1,yQ g2,aAF h1 hn g3,yQ g4,aAF h2 hn g5,yQ g6,K4 g7,aNM (w:=V9) g8 (.inl yx),NO g8,eG];rfl
structure Reads (o:eK):Prop where
 rn:(o.aU.map aX.name).Nodup
 dn:(o.bR.map bY.name).Nodup
 dr:∀d∈o.bR,∀s∈d.stops,aAA o.aU.length s
 cp:∀c∈o.iL,In o.bR.length c.iR/\In o.bR.length c.dst
theorem aZY{o:eK}(ho:Reads o){l:List Tk}(h:Ms l 0 (bQ (vT o)))(hl:l.length=(bQ (vT o)).length):jX l 0=.ok (o,l.length):=by
 obtain⟨nm,rs,ds,cs⟩:=o;obtain⟨rn,dn,dr,cp⟩:=ho;simp only at rn dn dr cp;unfold vT at h hl;rw[vV,V4,V4,aHm,aHl,aHm]at h hl;simp only at h hl;have h1:=h.cons.2;have h2:=h1.cons.2;have h3:=h2.cons.2;obtain⟨h4,h5⟩:=h3.app;obtain⟨h6,h7⟩:=h5.app;obtain⟨A,hA⟩:=gn ((rs.flatMap λa=>kA a++[eT]));obtain⟨B,hB⟩:=gn ((ds.flatMap λa=>bQ (iN (rs.map aX.name) a)));obtain⟨C,hC⟩:=gn ((cs.flatMap λa=>iV (ds.map bY.name) a++[eT]));rw[hA]at h4 h5 h6 h7 hl;rw[hB]at h6 h7 h5 hl;rw[hC]at h7 h5 hl;have hl':l.length=0+1+1+1+A.length+B.length+C.length:=by
  rw[hl];simp only[yAa,yAK,yAL];omega
 have nC:kC l (0+1+1+1+A.length+B.length+C.length) [SC]:=kC.fO ym;have nB:kC l (0+1+1+1+A.length+B.length) [PT,HQ,s8,FI,NK]:=by
  cases cs with
  |nil=>simp only[yDn]at hC;subst hC;exact kC.fO (by rw[hl'];simp)
  |cons c cs=>
   rw[yBg]at hC;rw[<-hC]at h7;exact kC.word h7 yx
 have nA:kC l (0+1+1+1+A.length) [NK]:=by
  cases ds with
  |nil=>
   simp only[yDn]at hB;subst hB;exact kC.sub nB λw hw=>by simp at hw;simp[hw]
  |cons d ds=>
   rw[yBg]at hB;rw[<-hB]at h6;unfold iN at h6;rw[vV]at h6;exact kC.word h6 yx
 have k1:=WE (w:=NK) (body:=iX) (S:=[]) (full:=λa=>kA a++[eT]) yo (λa=>⟨_,rfl⟩) hA (λa ha n hm _=>aZ6 hm) h4 nA ym;have k2:=WE (w:=PT) (body:=jM (rs.map aX.name)) (S:=[HQ,s8,FI]) (full:=λa=>bQ (iN (rs.map aX.name) a)) yx (λa=>by unfold iN;rw[vV];exact⟨_,rfl⟩) hB (λa ha n hm hx=>aZ5 rn (by rw[yAe];exact dr a ha) hm hx) h6 (nB.sub (by intro w hw;simp at hw;rcases hw with h|h|h|h<;>simp[h])) ym;have k3:=WE (w:=SC) (body:=iF (ds.map bY.name)) (S:=[]) (full:=λa=>iV (ds.map bY.name) a++[eT]) yo (λa=>⟨_,rfl⟩) hC (λa ha n hm _=>aZ7 dn (by rw[yAe];exact(cp a ha).1) (by rw[yAe];exact(cp a ha).2) hm) h7 nC ym;have k4:HT l (0+1+1+1+A.length+B.length+C.length)=.ok ((),l.length):=by simp[HT,<-hl']
 simp only[jX,aR,yQ h,PY h1,NO h2,k1,k2,k3,k4,eG]
end
theorem KW{w:Dr}(h:cV w=true):pC (wT w):=by
 cases w with
 |nil=>cases h
 |cons c r=>
  simp only[cV,yAr,yBC,yAn]at h;obtain⟨⟨h1,h2⟩,h3⟩:=h;have hL:∀n:Int,rF n=true->mX n=true:=λn h=>by
   simp only[rF,mX,yBi,yAr,yBC]at h ⊢;omega
  have hc:mX c.toNat=true:=hL _ h2;have hw:∀b∈c::r,oM b.toNat=true:=λb hb=>by
   rcases yAS.1 hb with rfl|hb
   .simp[oM,hc]
   .have:=h3 b hb;simp only[yP,rF,yBi,yAr,yBC]at this;simp only[oM,mX,cB,yBi,yAr,yBC];omega
  refine SF (w:=c::r) rfl (by simp[wT]) yo ym (λb hb e=>?_) ?_ λq hq=>by rw[aZM (by rw[nF];exact hc) hw h1 hq];rfl
  .have:=hw b hb;rw[e]at this
   revert this
   decide
  .rw[nF];refine⟨λe=>?_,λe=>?_,λe=>?_⟩<;>(rw[e]at hc;revert hc;decide)
theorem PU{n:Int}(h:-1000000000<=n/\n<=1000000000):pC (nT n):=by
 have hd:∀n,∀b∈Lib.decDigits n,b≠10:=λn b hb e=>by
  have:=oV n b hb;subst e
  revert this
  decide
 by_cases h0:0<=n
 .obtain⟨v,rfl⟩:∃k:Nat,n=k:=⟨n.toNat,ym⟩;have l1:=SG 9 v ym;have n1:=PV v;have hb:=aHi (oV v) n1;exact SF (w:=Lib.decDigits v) (by simp[nT,fF,KX]) (by simp[nT]) n1 ym (hd v) ym λr hr=>by rw[aNB ym hr];simp[nT,KX]
 .obtain⟨v,hv,rfl⟩:∃k:Nat,0<k/\n=-(k:Int):=⟨(-n).toNat,ym,ym⟩;have l1:=SG 9 v ym;refine SF (w:=45::Lib.decDigits v) (by simp[nT,fF,itoa_neg hv]) (by simp[nT]) yo (by rw[yAK];omega) ?_ Ad λr hr=>by rw[aNC ym hv hr];simp[nT,itoa_neg hv]
  exact tc
theorem aC1{x y:Int}(h:oE x y=0):0<y/\y<=1000000/\-1000000<=x/\x<=1000000/\Nat.gcd x.natAbs y.toNat=1:=by
 unfold oE at h;split at h
 .cases h
 .rename_i h1;simp only[not_or,Int.not_le,Int.not_lt,ne_eq,Classical.not_not]at h1;omega
theorem aZN{x y:Int}(h:oE x y=0)(hx:0<=x):pC (fT x y):=by
 obtain⟨h1,h2,h3,h4,h5⟩:=aC1 h;obtain⟨a,rfl⟩:∃k:Nat,x=k:=⟨x.toNat,ym⟩;obtain⟨b,rfl⟩:∃k:Nat,y=k:=⟨y.toNat,ym⟩;have hg:a.gcd b=1:=by simpa using h5
 obtain⟨_,f2,f3,f4,f5⟩:=aAD hg ym ym ym [];have SD:pk (iI a b++[39]) 0=pk (iI a b) 0:=KY f4;have hb:=aHj (b:=(iI a b)[0]'f4) (by rw[<-pV f4];exact f2);rw[<-pV f4]at hb;refine SF (w:=iI a b++[39]) (by simp[fT,fF]) (by simp[fT]) yo Ab ?_ (by rw[SD];omega) ?_
 .exact lY
 .intro r _;rw[(aAD hg ym ym ym r).1];simp[fT]
theorem aC0{x y:Int}(h:mI x y=0):oE x y=0/\0<x:=by
 unfold mI at h;split at h
 .cases h
 .rename_i h1;split at h
  .cases h
  .rename_i h2;exact⟨zo,ym⟩
theorem aND{x y:Int}(h:mI x y=0):pC (fT x y):=aZN (aC0 h).1 (Int.le_of_lt (aC0 h).2)
theorem aG9{r:aX}(h:lU r=0):cV r.name=true/\cV r.o9=true/\mI r.num r.den=0/\(-256<=r.first/\r.first<=256)/\r.oA.length<=128/\∀w∈r.oA,0<=w/\w<=1000000:=by
 unfold lU at h;split at h
 .cases h
 rename_i h1;split at h
 .rename_i h2;exact absurd h h2
 rename_i h2;split at h
 .cases h
 rename_i h3;split at h
 .cases h
 split at h
 .cases h
 rename_i h5;split at h
 .cases h
 rename_i h6;simp only[not_or,Bool.not_eq_false]at h1;refine⟨h1.1,h1.2,Bv,Ax,ym,λw hw=>?_⟩;rw[yBZ,yCz]at h6;have:=h6 w hw;simp only[kT,yBi,yBC]at this;omega
theorem aNE(k:Nat)(lo hg:Int):∀(l:List jV) (pv:Option Int),KZ k lo hg pv l=0->∀g∈l,(lo<=g.lo/\g.lo<=hg/\lo<=g.hi/\g.hi<=hg)/\mK k g.oB=0
 | [],_,_,g,hg=>Ao
 |x::l,pv,h,g,hm=>by
  unfold KZ at h;split at h
  .cases h
  rename_i h1;split at h
  .cases h
  split at h
  .rename_i h3;exact absurd h h3
  rename_i h3;rcases yAS.1 hm with rfl|hm
  .exact⟨ym,Ax⟩
  .exact aNE k lo hg l _ h g hm
theorem aC4{k:Nat}{lo hg:Int}{l:List jV}(h:HS k lo hg l=0):∀g∈l,(lo<=g.lo/\g.lo<=hg/\lo<=g.hi/\g.hi<=hg)/\mK k g.oB=0:=by
 unfold HS at h;split at h
 .cases h
 split at h
 .cases h
 exact aNE k lo hg l _ h
theorem aNF(k:Nat):∀(l pre:List gU),K0 k pre l=0->∀w∈l,(0<=w.bC/\w.bC<k)/\-127<=w.shift/\w.shift<=127
 | [],_,_,w,hw=>by cases hw
 |d::r,pre,h,w,hw=>by
  unfold K0 at h;split at h
  .cases h
  split at h
  .cases h
  split at h
  .cases h
  rcases yAS.1 hw with rfl|hw
  .omega
  .exact aNF k r _ h w hw
theorem aC3{k:Nat}{l:List gU}(h:mK k l=0):∀w∈l,(0<=w.bC/\w.bC<k)/\-127<=w.shift/\w.shift<=127:=by
 unfold mK at h;split at h
 .cases h
 exact aNF k l _ h
theorem aC2{lo hi:Int}(h:kB lo hi=0):0<=lo/\hi<=127/\lo<=hi:=by
 unfold kB at h;split at h
 .cases h
 split at h
 .cases h
 omega
def Names(ns:List (List UInt8)):Prop:=∀n∈ns,cV n=true
theorem Names.at{ns:List (List UInt8)}(h:Names ns){i:Int}(hi:0<=i/\i<ns.length):cV (ns.getD i.toNat [])=true:=by
 rw[yAA,yAh ym];exact h _ (yAm _)
theorem aZO:∀w∈[FF,NK,PT,HQ,s8,FI,SC,V5,NL,V6,V7,V8,aAx,aAy,aAz,V9],cV w=true:=yx
theorem pD{w:Dr}(h:w∈[FF,NK,PT,HQ,s8,FI,SC,V5,NL,V6,V7,V8,aAx,aAy,aAz,V9]):pC (wT w):=KW (aZO w h)
theorem aZP{r:aX}(h:lU r=0):∀t∈kA r,pC t:=by
 obtain⟨h1,h2,h3,h4,_,h5⟩:=aG9 h;intro t ht;simp only[kA,yAS,yAw]at ht;rcases ht with rfl|rfl|rfl|rfl|rfl|rfl|rfl|rfl|rfl | ⟨w,hw,rfl⟩
 .exact cm
 .exact KW h1
 .exact cm
 .exact KW h2
 .exact cm
 .exact aND h3
 .exact cm
 .exact jx
 .exact cm
 .have:=h5 w hw;exact jx
theorem aZQ{ns:List (List UInt8)}(hn:Names ns){d:gU}(h:0<=d.bC/\d.bC<ns.length)(hs:-127<=d.shift/\d.shift<=127):∀t∈lS ns d,pC t:=by
 intro t ht;simp only[lS,yAS,yBl,yBm]at ht;rcases ht with rfl|rfl|rfl
 .exact cm
 .exact KW (hn.at h)
 .exact jx
theorem aZR{ns:List (List UInt8)}(hn:Names ns){s:cM}{lo hg:Int}(h1:cV s.name=true)(h2:mI s.num s.den=0)(h3:HS ns.length lo hg s.yF=0)(h4:0<=lo/\hg<=127):WC (dQ ns s):=by
 intro x hx;simp only[dQ,yAS,yCt]at hx;rcases hx with rfl | ⟨g,hg,hx⟩
 .refine⟨yo,λt ht=>?_⟩;simp only[yAS,yBl,yBm]at ht;rcases ht with rfl|rfl|rfl|rfl
  .exact cm
  .exact KW h1
  .exact cm
  .exact aND h2
 .obtain⟨hb,hd⟩:=aC4 h3 g hg;simp only[iW,yAS,yAw]at hx;rcases hx with rfl | ⟨d,hd',rfl⟩
  .refine⟨yo,λt ht=>?_⟩;simp only[yAS,yBl,yBm]at ht;rcases ht with rfl|rfl|rfl
   .exact cm
   .exact jx
   .exact jx
  .obtain⟨k1,k2⟩:=aC3 hd d hd';exact⟨by simp[lS],aZQ hn k1 k2⟩
theorem aZS{d:bY}(h1:cV d.name=true)(h2:kB d.low d.high=0):KT d≠[]/\∀t∈KT d,pC t:=by
 have hb:=aC2 h2;refine⟨by simp[KT],λt ht=>?_⟩;simp only[KT,yAS,yBv,yBl,yBm]at ht;rcases ht with rfl|rfl|ht|rfl|rfl|rfl
 .exact cm
 .exact KW h1
 .exact wu
 .exact cm
 .exact jx
 .exact jx
theorem aZT{ns:List (List UInt8)}(hn:Names ns){c:dY}(h1:cV c.name=true)(h2:0<=c.iR/\c.iR<ns.length)(h3:0<=c.dst/\c.dst<ns.length)(h4:-127<=c.shift/\c.shift<=127):iV ns c≠[]/\∀t∈iV ns c,pC t:=by
 refine⟨by simp[iV],λt ht=>?_⟩;simp only[iV,yAS]at ht;rcases ht with rfl|rfl|rfl|rfl|rfl|rfl|rfl|rfl|ht
 .exact cm
 .exact KW h1
 .exact cm
 .exact KW (hn.at h2)
 .exact cm
 .exact KW (hn.at h3)
 .exact cm
 .exact jx
 .exact wu
theorem aNG{o:eK}(h:gZ o=0):Names (o.aU.map aX.name)/\Names (o.bR.map bY.name):=by
 obtain⟨_,h2,h3,_⟩:=(NI o).1 h;refine⟨λn hn=>?_,λn hn=>?_⟩
 .obtain⟨r,hr,rfl⟩:=yAw.1 hn;exact(aG9 (h2.2.1 r hr)).1
 .obtain⟨d,hd,rfl⟩:=yAw.1 hn;exact(h3.2.1 d hd).1
theorem aNH{o:eK}(h:gZ o=0){d:bY}(hd:d∈o.bR){s:cM}(hs:s∈d.stops):WC (dQ (o.aU.map aX.name) s)/\aAA (o.aU.map aX.name).length s:=by
 obtain⟨_,h2,h3,_⟩:=(NI o).1 h;obtain⟨k1,_,k2,_⟩:=(R8 _ _).1 (h3.2.1 d hd).2;obtain⟨_,q1,q2,q3⟩:=(aAu _ _ _ _).1 (k2 s hs);have hb:=aC2 k1;refine⟨aZR (aNG h).1 q1 q2 (lo:=d.low) (hg:=d.high) (by rw[yAe];exact q3) ⟨hb.1,hb.2.1⟩,λg hg w hw=>?_⟩;rw[yAe];exact(aC3 (aC4 q3 g hg).2 w hw).1
theorem aZU{o:eK}(h:gZ o=0):Reads o:=by
 obtain⟨_,h2,h3,_,h4,_⟩:=(NI o).1 h;refine⟨h2.2.2,h3.2.2,λd hd s hs=>by simpa using(aNH h hd hs).2,λc hc=>?_⟩;have:=(h4 c hc).2.1;exact⟨⟨this.1,this.2.1⟩,this.2.2⟩
theorem aZV{o:eK}(h:gZ o=0):WC (vT o):=by
 obtain⟨h1,h2,h3,_,h4,_⟩:=(NI o).1 h;obtain⟨hR,hD⟩:=aNG h;intro x hx;simp only[vT,yAS,yBv,yAw,yCt]at hx;rcases hx with rfl | ⟨r,hr,rfl⟩ | ⟨d,hd,hx⟩ | ⟨c,hc,rfl⟩
 .refine⟨yo,λt ht=>?_⟩;simp only[yAS,yBl,yBm]at ht;rcases ht with rfl|rfl
  .exact cm
  .exact KW h1
 .exact⟨by simp[kA],aZP (h2.2.1 r hr)⟩
 .simp only[iN,yAS,yCt]at hx;rcases hx with rfl | ⟨s,hs,hx⟩
  .exact aZS (h3.2.1 d hd).1 ((R8 _ _).1 (h3.2.1 d hd).2).1
  .exact(aNH h hd hs).1 x hx
 .obtain⟨k1,k2,k3,_⟩:=h4 c hc;exact aZT hD k1 (by rw[yAe];exact⟨k2.1,k2.2.1⟩) (by rw[yAe];exact k2.2.2) k3
theorem aZW{L:List (List Tk)}(h:WC L)(hl:(bQ L).length<=19999)(ht:(kR L).length<=65536):∃b,nE (kR L)=(b,(0,0),0)/\Ms b 0 (bQ L)/\b.length=(bQ L).length:=by
 obtain⟨b,h1,h2⟩:=aZX (aNI h) 1 [] Al;rw[aNJ h,yAQ]at h1;refine⟨b,?_,Ms.of h2,aHk h2⟩;unfold nE;rw[yAI ym,h1]
theorem aZL{o:eK}(h:gZ o=0)(hl:(bQ (vT o)).length<=19999)(ht:(yM o).length<=65536):∃b,nE (yM o)=(b,(0,0),0)/\jX b 0=.ok (o,b.length):=by
 obtain⟨b,h1,h2,h3⟩:=aZW (aZV h) hl ht;exact⟨b,h1,aZY (aZU h) h2 h3⟩
def TkB(t:Tk):Prop:=(0<t.kind/\0<t.line)/\iA t.text
theorem aZG{s:Dr}:(dM s).2.2=0->0<(dM s).1.kind:=by
 unfold dM;intro h
 repeat' split
 all_goals simp_all [aNy,aNz,bL]
theorem aZH{p:G9}(h:(iS p).2=0):(iS p).1.text.length<=202:=by
 have:=(aZI h).len;have k:=aNy h;simpa [fF,k]using this
theorem aNA{p:Dr}(h:(jK p).2=0):(jK p).1.text.length<=202:=by
 have:=(aZJ h).len;have k:=aNz h;simpa [fF,k]using this
theorem aZK{s:Dr}(hl:s.length<=65536):(dM s).2.2=0->iA (dM s).1.text:=by
 unfold dM iA;intro h;split
 .rename_i c;rw[yAJ c]at h;split
  .simp[bL]
  .simp only[yAt];omega
 .rename_i c;rw[yAI c]at h;split
  .rename_i c2;rw[yAJ c2]at h;split
   .rename_i c3;rw[yAJ c3]at h;have:=aZH h;exact cg
   .rename_i c3;rw[yAI c3]at h;have:=aNA h;exact cg
  .rename_i c2;rw[yAI c2]at h;split
   .rename_i c3;rw[yAJ c3]at h;have:=aNA h;exact cg
   .split
    .split
     .simp[bL]
     .simp only[yAt,yBf];omega
    .split
     .simp only[yAt];omega
     .split
      .simp only[yAt];omega
      .simp[bL]
theorem aHe:∀(n:Nat) (r:List UInt8) (ln cA:Int) (out:List Tk),0<ln->r.length<=65536->(∀t∈out,TkB t)->∀t∈(kQ n r ln cA out).1,TkB t
 |0,_,_,_,_,_,_,h=>h
 |n+1,r,ln,cA,out,hl,hr,h=>by
  unfold kQ;split
  .exact h
  .split
   .exact aHe n _ _ _ _ hl (by rw[yBf];omega) h
   .split
    .exact h
    .rename_i hz;have hz:(dM r).2.2=0:=by simpa using hz
     split
     .exact h
     .refine aHe n _ _ _ _ hl (by rw[yBf];omega) λt ht=>?_
      rcases yBv.1 ht with ht|ht
      .exact h t ht
      .simp only[yBY]at ht;subst ht;exact⟨⟨aZG hz,hl⟩,aZK hr hz⟩
theorem aHf:∀(L:List (List UInt8)) (ln:Int) (out:List Tk),0<ln->(∀l∈L,l.length<=65536)->(∀t∈out,TkB t)->out.length<=20000->(∀t∈(vR L ln out).1,TkB t)/\(vR L ln out).1.length<=20000
 | [],_,_,_,_,h,hl=>⟨h,hl⟩
 |l::L,ln,out,h0,hL,h,hl=>by
  have h1:=aHe (l.length+1) l ln 1 out h0 (hL l (yAZ ..)) h;have h2:=aCT (l.length+1) l ln 1 out hl;have hL':∀x∈L,x.length<=65536:=λx hx=>hL x (yBB _ hx)
  unfold vR;split
  .simp
  .split
   .exact aHf L _ _ ym hL' h hl
   .split
    .simp
    .rename_i hne;refine aHf L _ _ ym hL' (λt ht=>?_) Ab;rcases yBv.1 ht with ht|ht
     .exact h1 t ht
     .simp only[yBY]at ht;subst ht;exact⟨⟨by show(0:Int)<6;decide,h0⟩,by simp[iA]⟩
theorem aHg(s:List UInt8):(∀t∈(nE s).1,TkB t)/\(nE s).1.length<=20000:=by
 unfold nE;split
 .simp
 .rename_i h;exact aHf _ 1 [] yx (λl hl=>by have:=(aGU s).2 l hl;omega) yo yo
theorem aZF(s:List UInt8):aAB (nE s).1:=λt ht=>((aHg s).1 t ht).1
def RdB(l:List Tk):Prop:=(∀t∈l,iA t.text)/\l.length<=100000
theorem aZE(s:List UInt8):RdB (nE s).1:=⟨λt ht=>((aHg s).1 t ht).2,by have:=(aHg s).2;omega⟩
def bZ{α:Type}(x:Pm α)(P:α->Prop):Prop:=∀l n a n',RdB l->n<=l.length->x l n=.ok (a,n')->P a
theorem bZ.any{α:Type}{x:Pm α}:bZ x (λ_=>True):=λ_ _ _ _ _ _ _=>trivial
theorem bZ.ret{α:Type}{a:α}{P:α->Prop}(h:P a):bZ (eG a) P:=by
 intro l n b n' _ _ e;simp only[eG,yBn,yAc]at e;rw[<-e.1];exact h
theorem bZ.then'{α β:Type}{x:Pm α}{f:α->Pm β}{P:α->Prop}{Q:β->Prop}(hx:bZ x P)(hF:aP x)(hf:∀a,P a->bZ (f a) Q):bZ (aR x f) Q:=by
 intro l n b n' hB hn h;unfold aR at h;split at h
 .rename_i a n1 h1;exact hf a (hx l n a n1 hB hn h1) l n1 b n' hB (hF l n a n1 hn h1).2 h
 .cases h
theorem bZ.take{k:Int}:bZ (mJ k) (λt=>iA t.text):=by
 intro l n b n' hB hn h;unfold mJ at h;split at h
 .rename_i hk;simp only[yBn,yAc]at h;obtain⟨t,h1,_,h3⟩:=KV hk;rw[h3]at h;rw[<-h.1];exact hB.1 t (yAE h1)
 .cases h
theorem bZ.name:bZ rE iA:=bZ.then' .take .take λt ht=>.ret ht
theorem bZ.oA:bZ HR ZW:=by
 intro l n b n' hB hn h;simp only[HR,yBn,yAc]at h;have h1:=aHh (l.drop n);have h2:=hB.2;rw[yBf,h.1]at h1;unfold ZW;omega
theorem bZ.many{α:Type}{w:Dr}{b:Pm α}{P:α->Prop}(hb:bZ b P)(hF:aP b):bZ (oT w b) (λr=>r.length<=100000/\∀a∈r,P a):=by
 have key:∀(f:Nat) (acc:List α) (l:List Tk) (n:Nat) (r:List α) (n':Nat),RdB l->n<=l.length->acc.length<=n->(∀a∈acc,P a)->oU w b f acc l n=.ok (r,n')->r.length<=100000/\∀a∈r,P a:=by
  intro f
  induction f with
  |zero=>
   intro acc l n r n' hB hn hl ha h;simp only[oU,yBn,yAc]at h;have:=hB.2;rw[<-h.1];exact⟨ym,ha⟩
  |succ f ih=>
   intro acc l n r n' hB hn hl ha h;unfold oU at h;split at h
   .rename_i hk;obtain⟨t,h1,_,h3⟩:=KV hk;have hlt:=(yA.1 h1).1;rw[h3]at h;simp only at h;split at h
    .rename_i a n2 h4;have h5:=hF l (n+1) a n2 ym h4;refine ih (acc++[a]) l n2 r n' hB h5.2 Ab (λx hx=>?_) h;rcases yBv.1 hx with hx|hx
     .exact ha x hx
     .simp only[yBY]at hx;subst hx;exact hb l (n+1) _ n2 hB ym h4
    .cases h
   .simp only[yBn,yAc]at h;have:=hB.2;rw[<-h.1];exact⟨ym,ha⟩
 intro l n r n' hB hn h;exact key _ [] l n r n' hB hn yo yo h
theorem bZ.bC:bZ iX WB:=bZ.then' .name .name λ_ h1=>bZ.then' .any .key λ_ _=>bZ.then' .name .name λ_ h2=>bZ.then' .any .bB λ_ _=>bZ.then' .any .key λ_ _=>bZ.then' .any .num λ_ _=>bZ.then' .any .key λ_ _=>bZ.then' .oA .oA λ_ h3=>bZ.then' .any .fO λ_ _=>.ret ⟨h3,h1,h2⟩
theorem bZ.cK{r:List (List UInt8)}:bZ (lT r) okG:=bZ.then' .any .num λ_ _=>bZ.then' .any .num λ_ _=>bZ.then' .any .fO λ_ _=>bZ.then' (.many (P:=λ_=>True) .any .draw) (.many .draw) λ_ h=>.ret (show _<=_ by have:=h.1;simp only;omega)
theorem bZ.stop{r:List (List UInt8)}:bZ (gB r) aAC:=bZ.then' .name .name λ_ h1=>bZ.then' .any .bB λ_ _=>bZ.then' .any .fO λ_ _=>bZ.then' (.many .cK .cK) (.many .cK) λ_ h=>.ret ⟨⟨by have:=h.1;simp only;omega,h.2⟩,h1⟩
theorem bZ.div{r:List (List UInt8)}:bZ (jM r) SE:=bZ.then' .name .name λ_ h1=>bZ.then' .any .is λ_ _=>bZ.then' .any .key λ_ _=>bZ.then' .any .num λ_ _=>bZ.then' .any .num λ_ _=>bZ.then' .any .fO λ_ _=>bZ.then' (.many .stop .stop) (.many .stop) λ_ h=>.ret ⟨h1,by have:=h.1;simp only;omega,h.2⟩
theorem bZ.cC{r:List (List UInt8)}:bZ (iF r) (λc=>iA c.name):=bZ.then' .name .name λ_ h1=>bZ.then' .any .key λ_ _=>bZ.then' .any .index λ_ _=>bZ.then' .any .key λ_ _=>bZ.then' .any .index λ_ _=>bZ.then' .any .key λ_ _=>bZ.then' .any .num λ_ _=>bZ.then' .any .is λ_ _=>bZ.then' .any .fO λ_ _=>.ret h1
theorem bZ.fE:bZ jX vS:=bZ.then' .any .key λ_ _=>bZ.then' .name .name λ_ h1=>bZ.then' .any .fO λ_ _=>bZ.then' (.many .bC .bC) (.many .bC) λ_ h2=>bZ.then' (.many .div .div) (.many .div) λ_ h3=>bZ.then' (.many .cC .cC) (.many .cC) λ_ h4=>bZ.then' .any .done λ_ _=>.ret ⟨h1,⟨h2.2,by have:=h2.1;simp only;omega⟩,⟨by have:=h3.1;simp only;omega,h3.2⟩,by have:=h4.1;simp only;omega,h4.2⟩
def HN:eK:=⟨[],[],[],[]⟩
def aNx:cM:=⟨[],0,0,[]⟩
def aDd(l:List Tk):eK×(Int×Int)×Int:=match jX l 0 with
 |.error f=>(HN,(f.1,f.2.1),f.2.2)
 |.ok r=>if gZ r.1≠0 then(HN,(0,0),gZ r.1)else(r.1,(0,0),0)
def yL(s:List UInt8):eK×(Int×Int)×Int:=if (nE s).2.2≠0 then(HN,(nE s).2.1,(nE s).2.2)else aDd (nE s).1
theorem aZm{o:eK}(h:gZ o=0)(hl:(bQ (vT o)).length<=19999)(ht:(yM o).length<=65536):yL (yM o)=(o,(0,0),0):=by
 obtain⟨b,h1,h2⟩:=aZL h hl ht;simp[yL,h1,aDd,h2,h]
end Go.Kz
