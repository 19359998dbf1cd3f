/- Steps of the proof. -/
import Derived.Test.YtnogdlnjafblaaaGreatDoorP5
import Derived.Test.YtnogdlnjafblaaaGreatDoorG1
import Derived.Test.YtnogdlnjafblaaaGreatDoorP7
import Derived.Test.YtnogdlnjafblaaaGreatDoorG3
set_option linter.all false
set_option maxHeartbeats 40000000
set_option maxRecDepth 100000
namespace Go.Kz
open Go Go.Proofs
theorem TD(ns:List (List UInt8))(nm:List UInt8):kL ns nm=true↔nm∈ns:=by simp[kL]
theorem aBy{α:Type}{ns t:List α}{x:α}(h:(ns++x::t).Nodup):x∉ns:=λhx=>(yDe.1 h).2.2 x hx x (yBa ..) rfl
theorem aK9:∀(l:List bA) (ns:List (List UInt8)),ns.Nodup->(DD ns l=0↔(∀r∈l,pR r=0)/\(ns++l.map bA.name).Nodup)
 | [],ns,h=>by simp[DD,h]
 |r::t,ns,h=>by
  unfold DD
  by_cases h1:pR r=0
  .rw[yAI yb]
   by_cases h2:kL ns r.name=true
   .rw[yAJ h2];exact⟨λe=>absurd e xl,λe=>absurd ((TD _ _).1 h2) (aBy (t:=t.map bA.name) e.2)⟩
   .rw[yAI h2];have hs:r.name∉ns:=λe=>h2 ((TD _ _).2 e)
    have hn:(ns++[r.name]).Nodup:=by
     rw[yDe];exact cy
    rw[aK9 t _ hn];simp[h1]
  .exact qw
theorem aLa(rs:List bA)(lo hg:Int):∀(l:List dL) (ns:List (List UInt8)),ns.Nodup->(MZ rs lo hg ns l=0↔(∀r∈l,DE rs lo hg r=0)/\(ns++l.map dL.name).Nodup)
 | [],ns,h=>by simp[MZ,h]
 |r::t,ns,h=>by
  unfold MZ
  by_cases h1:DE rs lo hg r=0
  .rw[yAI yb]
   by_cases h2:kL ns r.name=true
   .rw[yAJ h2];exact⟨λe=>absurd e xl,λe=>absurd ((TD _ _).1 h2) (aBy (t:=t.map dL.name) e.2)⟩
   .rw[yAI h2];have hs:r.name∉ns:=λe=>h2 ((TD _ _).2 e)
    have hn:(ns++[r.name]).Nodup:=by
     rw[yDe];exact cy
    rw[aLa rs lo hg t _ hn];simp[h1]
  .exact qw
theorem aLb(rs:List bA):∀(l:List b9) (ns:List (List UInt8)),ns.Nodup->(IM rs ns l=0↔(∀r∈l,dR r.name=true/\DF rs r=0)/\(ns++l.map b9.name).Nodup)
 | [],ns,h=>by simp[IM,h]
 |r::t,ns,h=>by
  unfold IM
  by_cases h0:dR r.name=false
  .rw[yAJ h0];exact⟨λe=>absurd e xl,λe=>absurd (e.1 r (yBa ..)).1 (by rw[h0];decide)⟩
  rw[yAI h0];have h0':dR r.name=true:=by simpa using h0
  by_cases h2:kL ns r.name=true
  .rw[yAJ h2];exact⟨λe=>absurd e xl,λe=>absurd ((TD _ _).1 h2) (aBy (t:=t.map b9.name) e.2)⟩
  .rw[yAI h2];have hs:r.name∉ns:=λe=>h2 ((TD _ _).2 e)
   by_cases h1:DF rs r=0
   .rw[yAI yb];have hn:(ns++[r.name]).Nodup:=by
     rw[yDe];exact cy
    rw[aLb rs t _ hn];simp[h1,h0']
   .rw[yAJ h1];exact⟨λe=>absurd e h1,λe=>absurd (e.1 r (yBa ..)).2 h1⟩
def aFp(k:Nat)(c:eF):Prop:=dR c.name=true/\(0<=c.lT/\c.lT<k/\0<=c.dst/\c.dst<k)/\(-127<=c.shift/\c.shift<=127)/\¬(c.lT=c.dst/\c.shift=0)
theorem aLc(k:Nat):∀(l pre:List eF),(pre.map eF.name).Nodup->(FM k pre l=0↔(∀c∈l,aFp k c)/\(pre.map eF.name++l.map eF.name).Nodup)
 | [],pre,h=>by simp[FM,h]
 |c::t,pre,h=>by
  unfold FM
  by_cases h0:dR c.name=false
  .rw[yAJ h0];exact⟨λe=>absurd e xl,λe=>absurd (e.1 c (yBa ..)).1 (by rw[h0];decide)⟩
  rw[yAI h0];have h0':dR c.name=true:=by simpa using h0
  have hm:pre.any (iP c.name)=true↔c.name∈pre.map eF.name:=by
   simp[iP]
  by_cases h2:pre.any (iP c.name)=true
  .rw[yAJ h2];exact⟨λe=>absurd e xl,λe=>absurd (hm.1 h2) (aBy (t:=t.map eF.name) e.2)⟩
  rw[yAI h2];have hs:c.name∉pre.map eF.name:=λe=>h2 (hm.2 e)
  by_cases h3:c.lT<0\/(k:Int)<=c.lT\/c.dst<0\/(k:Int)<=c.dst
  .rw[yAJ h3];exact⟨λe=>absurd e xl,λe=>by have:=(e.1 c (yBa ..)).2.1;omega⟩
  rw[yAI h3]
  by_cases h4:c.shift < -127\/127<c.shift
  .rw[yAJ h4];exact⟨λe=>absurd e xl,λe=>by have:=(e.1 c (yBa ..)).2.2.1;omega⟩
  rw[yAI h4]
  by_cases h5:c.lT=c.dst/\c.shift=0
  .rw[yAJ h5];exact⟨λe=>absurd e xl,λe=>absurd h5 (e.1 c (yBa ..)).2.2.2⟩
  rw[yAI h5];have hn:((pre++[c]).map eF.name).Nodup:=by
   rw[yAH,yDe];exact cy
  rw[aLc k t _ hn];have hc:aFp k c:=⟨h0',xb,xb,h5⟩;simp[hc]
theorem aBg(rs:List bA)(lo hg:Int)(s:dL):DE rs lo hg s=0↔K4 rs lo hg=0/\dR s.name=true/\mP s.num s.den=0/\S9 rs.length lo hg s.E4=0:=by
 unfold DE
 by_cases h1:K4 rs lo hg=0
 .rw[yAI yb]
  by_cases h2:dR s.name=false
  .rw[yAJ h2];exact⟨λe=>absurd e xl,λe=>absurd e.2.1 (by rw[h2];decide)⟩
  rw[yAI h2]
  by_cases h3:mP s.num s.den=0
  .rw[yAI zf];exact⟨λe=>⟨h1,Aj,h3,e⟩,λe=>e.2.2.2⟩
  .rw[yAJ h3];exact⟨λe=>absurd e h3,λe=>absurd e.2.2.1 h3⟩
 .exact sw
theorem S0(rs:List bA)(d:b9):DF rs d=0↔lG d.low d.high=0/\d.stops.length<=60/\(∀s∈d.stops,DE rs d.low d.high s=0)/\(d.stops.map dL.name).Nodup:=by
 unfold DF
 by_cases h1:lG d.low d.high=0
 .rw[yAI yb]
  by_cases h2:60<d.stops.length
  .rw[yAJ h2];exact⟨λe=>absurd e xl,λe=>xb⟩
  rw[yAI h2,aLa rs d.low d.high d.stops [] wz];exact⟨λe=>⟨h1,xb,e.1,by simpa using e.2⟩,λe=>⟨e.2.2.1,by simpa using e.2.2.2⟩⟩
 .exact sw
theorem OY(o:eG):gI o=0↔dR o.name=true/\(o.bM.length<=60/\(∀r∈o.bM,pR r=0)/\(o.bM.map bA.name).Nodup)/\((o.dY.length≠0/\o.dY.length<=8)/\(∀d∈o.dY,dR d.name=true/\DF o.bM d=0)/\(o.dY.map b9.name).Nodup)/\o.oU.length<=40/\(∀c∈o.oU,aFp o.dY.length c)/\(o.oU.map eF.name).Nodup:=by
 unfold gI
 by_cases h1:dR o.name=false
 .rw[yAJ h1];exact⟨λe=>absurd e xl,λe=>absurd e.1 (by rw[h1];decide)⟩
 rw[yAI h1];have h1':dR o.name=true:=yb
 by_cases h2:60<o.bM.length
 .rw[yAJ h2];exact⟨λe=>absurd e xl,λe=>by have:=e.2.1.1;omega⟩
 rw[yAI h2];have hr:=aK9 o.bM [] wz;rw[yAQ]at hr
 by_cases h3:DD [] o.bM=0
 .rw[yAI zf];have h3':=hr.1 h3;unfold aBz
  by_cases h4:o.dY.length=0
  .rw[yAJ h4];exact⟨λe=>absurd e xl,λe=>absurd h4 e.2.2.1.1.1⟩
  rw[yAI h4]
  by_cases h5:8<o.dY.length
  .rw[yAJ h5];exact⟨λe=>absurd e xl,λe=>by have:=e.2.2.1.1.2;omega⟩
  rw[yAI h5];have hd:=aLb o.bM o.dY [] wz;rw[yAQ]at hd
  by_cases h6:IM o.bM [] o.dY=0
  .rw[yAI (by simpa using h6)];have h6':=hd.1 h6;unfold M0;have hk:(iU o.dY).length=o.dY.length:=by unfold iU;rw[yAe]
   rw[hk]
   by_cases h7:40<o.oU.length
   .rw[yAJ (.inr h7)];exact⟨λe=>absurd e xl,λe=>by have:=e.2.2.2.1;omega⟩
   rw[yAI xb];have hc:PJ (iU o.dY)=false:=by
    unfold PJ iU;rw[List.any_eq_false];intro x hx;obtain⟨d,hd,rfl⟩:=yAw.1 hx;simp[((S0 _ _).1 (h6'.1 d hd).2).1]
   rw[hc,yAI xl];have hq:=aLc o.dY.length o.oU [] wz;rw[yBP,yAQ]at hq;rw[hq];exact⟨λe=>⟨h1',⟨xb,h3'⟩,⟨⟨h4,xb⟩,h6'⟩,xb,e⟩,λe=>e.2.2.2.2⟩
  .rw[yAJ h6];exact⟨λe=>absurd e h6,λe=>absurd (hd.2 e.2.2.1.2) h6⟩
 .rw[yAJ h3];exact⟨λe=>absurd e h3,λe=>absurd (hr.2 e.2.1.2) h3⟩
structure aLd (o:eG):Prop where
 name:jD o.name
 bM:∀r∈o.bM,S8 r
 dY:∀d∈o.dY,O5 d
 oU:∀c∈o.oU,jD c.name
def aFq(o:eG):Prop:=gI o=0/\aLd o
section
def wT(w:List UInt8):Tk:=⟨1,w,0,(0,0),0,0⟩
def nT(n:Int):Tk:=⟨2,Lib.itoa n,n,(0,0),0,0⟩
def fT(x y:Int):Tk:=⟨3,gH x.toNat y.toNat++[39],0,(x,y),0,0⟩
def eT:Tk:=⟨6,[10],0,(0,0),0,0⟩
def bE(L:List (List Tk)):List Tk:=L.flatMap (·++[eT])
def jC(L:List (List Tk)):List UInt8:=L.flatMap λx=>j4 x++[10]
theorem tU(x:List Tk)(L:List (List Tk)):bE (x::L)=x++eT::bE L:=by simp[bE]
theorem S1(a b:List (List Tk)):bE (a++b)=bE a++bE b:=by simp[bE]
theorem aFe{α:Type}(f:α->List (List Tk))(l:List α):bE (l.flatMap f)=l.flatMap λa=>bE (f a):=by simp[bE,List.flatMap_assoc]
theorem aFf{α:Type}(f:α->List Tk)(l:List α):bE (l.map f)=l.flatMap λa=>f a++[eT]:=by simp[bE,List.flatMap_map]
def OW(L:List (List Tk)):Prop:=∀x∈L,x≠[]/\∀t∈x,oC t
theorem aKP:∀ {L:List (List Tk)},OW L->XY (bE L)
 | [],_=>.nil
 |x::L,h=>by
  rw[tU];exact .cons (h x (yBa ..)).1 (h x (yBa ..)).2 rfl rfl rfl rfl (aKP λy hy=>h y (yBE _ hy))
theorem aKQ:∀ {L:List (List Tk)},OW L->KZ (some 6) (bE L)=jC L
 | [],_=>rfl
 |x::L,h=>by
  rw[tU,aFg rfl (h x (yBa ..)).1 (h x (yBa ..)).2,aKQ λy hy=>h y (yBE _ hy)];simp[jC]
theorem OX{u t:Tk}(h:IJ u t=true):u.kind=t.kind/\u.text=t.text/\u.num=t.num/\u.cB=t.cB:=by
 simpa [IJ]using h
def Ms(l:List Tk)(n:Nat)(ts:List Tk):Prop:=∀i t,ts[i]?=some t->∃u,l[n+i]?=some u/\IJ u t=true
theorem Ms.cons{l:List Tk}{n:Nat}{t:Tk}{ts:List Tk}(h:Ms l n (t::ts)):(∃u,l[n]?=some u/\IJ u t=true)/\Ms l (n+1) ts:=by
 refine⟨by simpa using h 0 t rfl,λi u hu=>?_⟩;have:=h (i+1) u yx
 rwa [show n+1+i=n+(i+1) by omega]
theorem Ms.app{l:List Tk}{n:Nat}{a b:List Tk}(h:Ms l n (a++b)):Ms l n a/\Ms l (n+a.length) b:=by
 refine⟨λi t ht=>h i t (by rw[yAg (yA.1 ht).1];exact ht),λi t ht=>?_⟩;have:=h (a.length+i) t (by rw[yCp xb];simpa using ht)
 rwa [show n+a.length+i=n+(a.length+i) by omega]
theorem Ms.of:∀ {b l:List Tk},pS b l=true->Ms b 0 l
 | [],[],_=>λi t h=>yp
 | [],_::_,h=>by simp[pS]at h
 |_::_,[],h=>by simp[pS]at h
 |x::b,y::l,h=>by
  simp only[pS,yAr]at h;intro i t ht;cases i with
  |zero=>
   simp only[yBv,yAb]at ht;subst ht;exact⟨x,rfl,h.1⟩
  |succ i=>
   obtain⟨u,h1,h2⟩:=Ms.of h.2 i t (by simpa using ht);exact⟨u,by rw[yAp]at h1 ⊢;simpa using h1,h2⟩
theorem aBs{l:List Tk}{n:Nat}{t:Tk}{ts:List Tk}(h:Ms l n (t::ts)):∃u,lF t.kind l n=.ok (u,n+1)/\u.text=t.text/\u.num=t.num/\u.cB=t.cB:=by
 obtain⟨⟨u,hu,he⟩,_⟩:=h.cons;obtain⟨e1,e2,e3,e4⟩:=OX he;refine⟨u,?_,e2,e3,e4⟩;have:bK (λx=>decide (x.kind=t.kind)) l n=((u,true),n+1):=by simp[bK,hu,e1]
 simp[lF,this]
theorem MT{l:List Tk}{n:Nat}{w:Bx}{ts:List Tk}(h:Ms l n (wT w::ts)):pP l n=.ok (w,n+1):=by
 obtain⟨u,h1,h2,_⟩:=aBs h;simp only[pP,aQ,show lF 1 l n=_ from h1,dT,h2,wT]
theorem IK{l:List Tk}{n:Nat}{k:Int}{ts:List Tk}(h:Ms l n (nT k::ts)):pT l n=.ok (k,n+1):=by
 obtain⟨u,h1,_,h2,_⟩:=aBs h;simp only[pT,aQ,show lF 2 l n=_ from h1,dT,h2,nT]
theorem K0{l:List Tk}{n:Nat}{ts:List Tk}(h:Ms l n (eT::ts)):pU l n=.ok ((),n+1):=by
 obtain⟨u,h1,_⟩:=aBs h;simp only[pU,aQ,show lF 6 l n=_ from h1,dT]
theorem aFh{l:List Tk}{n:Nat}{w:Bx}{ts:List Tk}(h:Ms l n (wT w::ts)):∃u,bK (isWord 1 w) l n=((u,true),n+1):=by
 obtain⟨⟨u,hu,he⟩,_⟩:=h.cons;obtain⟨e1,e2,e3,e4⟩:=OX he;exact⟨u,by simp[bK,hu,isWord,e1,e2,wT]⟩
theorem wC{l:List Tk}{n:Nat}{w:Bx}{ts:List Tk}(h:Ms l n (wT w::ts)):lH w l n=.ok ((),n+1):=by
 obtain⟨u,h1⟩:=aFh h;simp[lH,h1]
theorem aKR{l:List Tk}{n:Nat}{w:Bx}{ts:List Tk}(h:Ms l n (wT w::ts)):tV w l n=.ok (true,n+1):=by
 obtain⟨u,h1⟩:=aFh h;simp[tV,h1]
theorem aKS{l:List Tk}{n:Nat}{w:Bx}{t:Tk}{ts:List Tk}(h:Ms l n (t::ts))(hn:t.kind≠1\/t.text≠w):bK (isWord 1 w) l n=((bD,false),n):=by
 obtain⟨⟨u,hu,he⟩,_⟩:=h.cons;obtain⟨e1,e2,e3,e4⟩:=OX he;have:isWord 1 w u=false:=by
  simp only[isWord,e1,e2];rcases hn with h|h<;>simp[h]
 simp[bK,hu,this]
theorem aKT{l:List Tk}{n:Nat}{w:Bx}{t:Tk}{ts:List Tk}(h:Ms l n (t::ts))(hn:t.kind≠1\/t.text≠w):tV w l n=.ok (false,n):=by
 simp[tV,aKS h hn]
theorem aKU{l:List Tk}{n:Nat}{x y:Int}{ts:List Tk}(h:Ms l n (wT [102,101,101,116]::fT x y::ts)):wD l n=.ok ((x,y),n+2):=by
 obtain⟨u,h1,_,_,h2⟩:=aBs h.cons.2;simp only[wD,aQ,wC h,show lF 3 l (n+1)=_ from h1,dT,h2,fT]
theorem aKV:∀ {ns:List (List UInt8)} {i:Nat} {w:Bx},ns.Nodup->ns[i]?=some w->placeOf w ns=i
 | [],i,w,_,h=>yp
 |x::ns,0,w,_,h=>by
  simp only[yBv,yAb]at h;simp[placeOf,h]
 |x::ns,i+1,w,hn,h=>by
  rw[yBL]at h;have hi:=aKV (List.nodup_cons.1 hn).2 h;have hne:x≠w:=λe=>(List.nodup_cons.1 hn).1 (e▸yAE h)
  unfold placeOf;rw[yAI hne,hi,yAI xb];omega
theorem XZ{l:List Tk}{n:Nat}{ns:List (List UInt8)}{i:Int}{ts:List Tk}(hi:0<=i/\i<ns.length)(hn:ns.Nodup)(h:Ms l n (wT (ns.getD i.toNat [])::ts)):lY ns l n=.ok (i,n+1):=by
 obtain⟨⟨u,hu,he⟩,_⟩:=h.cons;obtain⟨e1,e2,e3,e4⟩:=OX he;have hp:placeOf u.text ns=i:=by
  rw[e2];have:=aKV (i:=i.toNat) (w:=ns.getD i.toNat []) hn (by rw[yAA,yAh xb];rfl);simp only[wT];omega
 simp[lY,kW,hu,e1,hp,wT,Int.not_lt.2 hi.1]
theorem aKW{t:Tk}(ht:t.kind≠2):∀ {ws:List Int} {l ts:List Tk} {n:Nat},Ms l n (ws.map nT++t::ts)->mR (l.drop n)=ws
 | [],l,ts,n,h=>by
   obtain⟨⟨u,hu,he⟩,_⟩:=h.cons;obtain⟨e1,_⟩:=OX he;have hl:=(yA.1 hu).1;have hu2:=(yA.1 hu).2;rw[yAq hl];unfold mR;rw[yAI (by rw[hu2,e1];exact ht)]
 |w::ws,l,ts,n,h=>by
  obtain⟨⟨u,hu,he⟩,h2⟩:=h.cons;obtain⟨e1,e2,e3,e4⟩:=OX he;have hl:=(yA.1 hu).1;have hu2:=(yA.1 hu).2;rw[yAq hl];unfold mR;rw[yAJ (by rw[hu2,e1];rfl),aKW ht h2,hu2,e3];rfl
theorem aVC{l:List Tk}{n:Nat}{t:Tk}{ts:List Tk}{ws:List Int}(ht:t.kind≠2)(h:Ms l n (ws.map nT++t::ts)):FI l n=.ok (ws,n+ws.length):=by
 simp only[FI,aKW ht h]
def jM(l:List Tk)(n:Nat)(S:List (List UInt8)):Prop:=∀w∈S,(bK (isWord 1 w) l n).1.2=false
theorem jM.word{l:List Tk}{n:Nat}{w:Bx}{ts:List Tk}{S:List (List UInt8)}(h:Ms l n (wT w::ts))(hw:w∉S):jM l n S:=λv hv=>by
 rw[aKS h (.inr λe=>hw (by rw[show w=v from e];exact hv))]
theorem jM.eY{l:List Tk}{n:Nat}{S:List (List UInt8)}(h:l.length<=n):jM l n S:=λv _=>by simp[bK,yBp h]
theorem jM.sub{l:List Tk}{n:Nat}{S T:List (List UInt8)}(h:jM l n T)(hs:∀w∈S,w∈T):jM l n S:=λv hv=>h v (hs v hv)
theorem TA{α:Type}{w:Bx}{body:Pm α}{S:List (List UInt8)}{full:α->List Tk}(hS:w∉S)(hf:∀a,∃ts,full a=wT w::ts){l:List Tk} :
  ∀ {asg:List α} {n:Nat} {X:List Tk},asg.flatMap full=X->(∀a∈asg,∀n,Ms l n (full a)->jM l (n+(full a).length) S->body l (n+1)=.ok (a,n+(full a).length))->Ms l n X->jM l (n+X.length) (w::S)->n+X.length<=l.length ->
    nI w body l n=.ok (asg,n+X.length):=by
 have key:∀(asg:List α) (n:Nat) (f:Nat) (acc:List α),(∀a∈asg,∀n,Ms l n (full a)->jM l (n+(full a).length) S->body l (n+1)=.ok (a,n+(full a).length))->Ms l n (asg.flatMap full)->jM l (n+(asg.flatMap full).length) (w::S)->(asg.flatMap full).length<f ->
   nJ w body f acc l n=.ok (acc++asg,n+(asg.flatMap full).length):=by
  intro asg
  induction asg with
  |nil=>
   intro n f acc _ _ hx hf0;obtain⟨f,rfl⟩:∃g,f=g+1:=⟨f-1,by simp at hf0;omega⟩;have:=hx w (yBa ..);simp only[yDd,yAL,yBU]at this;unfold nJ;rw[this];simp
  |cons a asg ih=>
   intro n f acc hb hm hx hf0;obtain⟨f,rfl⟩:∃g,f=g+1:=⟨f-1,xb⟩;rw[yBg]at hm hx hf0 ⊢;obtain⟨h1,h2⟩:=hm.app;obtain⟨ts,hts⟩:=hf a;have h1':=h1;rw[hts]at h1';obtain⟨u,hu⟩:=aFh h1';rw[yAa]at hx hf0 ⊢;rw[<-yCm]at hx ⊢;have hN:jM l (n+(full a).length) S:=by
    cases asg with
    |nil=>exact jM.sub yj λv hv=>yBE _ hv
    |cons b bs=>
     obtain⟨us,hus⟩:=hf b;rw[yBg,hus]at h2;exact jM.word h2 hS
   unfold nJ;rw[hu];simp only[yAM,hb a (yBa ..) n h1 hN];rw[ih (n+(full a).length) f (acc++[a]) (λb hb'=>hb b (yBE _ hb')) h2 hx (by
    have:0<(full a).length:=by rw[hts];simp
    omega),yAi]
   rfl
 rintro asg n X rfl hb hm hx hl
 unfold nI;rw[key asg n (l.length+1-n) [] hb hm hx xb,yAQ]
abbrev C7:List UInt8:=[111,114,103,97,110]
abbrev KV:List UInt8:=[114,97,110,107]
abbrev MP:List UInt8:=[100,105,118,105,115,105,111,110]
abbrev FH:List UInt8:=[115,116,111,112]
abbrev rM:List UInt8:=[107,101,121,115]
abbrev C9:List UInt8:=[100,114,97,119]
abbrev O2:List UInt8:=[99,111,117,112,108,101,114]
abbrev S2:List UInt8:=[116,111,110,101]
abbrev KW:List UInt8:=[102,101,101,116]
abbrev S3:List UInt8:=[102,105,114,115,116]
abbrev S4:List UInt8:=[119,105,110,100]
abbrev S5:List UInt8:=[112,101,100,97,108]
abbrev XQ:List UInt8:=[102,114,111,109]
abbrev XR:List UInt8:=[116,111]
abbrev XS:List UInt8:=[115,104,105,102,116]
abbrev S6:List UInt8:=[116,104,114,111,117,103,104]
def jL(r:bA):List Tk:=wT KV::wT r.name::wT S2::wT r.E3::wT KW::fT r.num r.den::wT S3::nT r.first::wT S4::r.nD.map nT
def kT(ns:List (List UInt8))(d:fV):List Tk:=[wT C9,wT (ns.getD d.bO.toNat []),nT d.shift]
def iB(ns:List (List UInt8))(g:kJ):List (List Tk):=[wT rM,nT g.lo,nT g.hi]::g.rI.map (kT ns)
def dB(ns:List (List UInt8))(s:dL):List (List Tk):=[wT FH,wT s.name,wT KW,fT s.num s.den]::s.E4.flatMap (iB ns)
def ID(d:b9):List Tk:=wT MP::wT d.name::((if d.RW=true then [wT S5]else [])++[wT rM,nT d.low,nT d.high])
def gQ(ns:List (List UInt8))(d:b9):List (List Tk):=ID d::d.stops.flatMap (dB ns)
def iA(ns:List (List UInt8))(c:eF):List Tk:=wT O2::wT c.name::wT XQ::wT (ns.getD c.lT.toNat [])::wT XR::wT (ns.getD c.dst.toNat [])::wT XS::nT c.shift::(if c.ME=true then [wT S6]else [])
def tS(o:eG):List (List Tk):=[wT C7,wT o.name]::(o.bM.map jL++(o.dY.flatMap (gQ (o.bM.map bA.name))++o.oU.map (iA (o.dY.map b9.name))))
def vZ(o:eG):List UInt8:=jC (tS o)
def KS(ns:List (List UInt8))(s:dL):List UInt8:=jC (dB ns s)
def In(k:Nat)(i:Int):Prop:=0<=i/\i<k
def XT(k:Nat)(s:dL):Prop:=∀g∈s.E4,∀d∈g.rI,In k d.bO
section
variable{ns:List (List UInt8)}(hn:ns.Nodup)
include hn
theorem aVD{d:fV}(hd:In ns.length d.bO){l:List Tk}{n:Nat}(h:Ms l n (kT ns d++[eT])):dW ns l (n+1)=.ok (d,n+(kT ns d++[eT]).length):=by
 have h1:=h.cons.2;have h2:=h1.cons.2;have h3:=h2.cons.2;simp only[dW,aQ,XZ hd hn h1,IK h2,K0 h3,dT];rfl
theorem aVE{g:kJ}(hg:∀d∈g.rI,In ns.length d.bO){l:List Tk}{n:Nat}(h:Ms l n (bE (iB ns g)))(hl:n+(bE (iB ns g)).length<=l.length)(hx:jM l (n+(bE (iB ns g)).length) [C9]):kU ns l (n+1)=.ok (g,n+(bE (iB ns g)).length):=by
 unfold iB at h hx hl ⊢;rw[tU,aFf]at h hx hl ⊢;have h1:=h.cons.2;have h2:=h1.cons.2;have h3:=h2.cons.2;have h4:=h3.cons.2;have e:n+([wT rM,nT g.lo,nT g.hi]++eT::g.rI.flatMap λa=>kT ns a++[eT]).length=n+1+1+1+1+(g.rI.flatMap λa=>kT ns a++[eT]).length:=by simp only[yAa,yAK,yAL];omega
 rw[e]at hx hl ⊢;have hm:=TA (w:=C9) (body:=dW ns) (S:=[]) (full:=λa=>kT ns a++[eT]) wz (λa=>⟨_,rfl⟩) rfl (λa ha n hm _=>aVD hn (hg a ha) hm) h4 hx hl;simp only[kU,aQ,IK h1,IK h2,K0 h3,hm,dT]
theorem aVF{s:dL}(hs:XT ns.length s){l:List Tk}{n:Nat}(h:Ms l n (bE (dB ns s)))(hl:n+(bE (dB ns s)).length<=l.length)(hx:jM l (n+(bE (dB ns s)).length) [rM,C9]):fJ ns l (n+1)=.ok (s,n+(bE (dB ns s)).length):=by
 unfold dB at h hx hl ⊢;rw[tU,aFe]at h hx hl ⊢;have h1:=h.cons.2;have h2:=h1.cons.2;have h4:=h2.cons.2.cons.2;have h5:=h4.cons.2;have e:n+([wT FH,wT s.name,wT KW,fT s.num s.den]++eT::s.E4.flatMap λa=>bE (iB ns a)).length=n+1+1+1+1+1+(s.E4.flatMap λa=>bE (iB ns a)).length:=by simp only[yAa,yAK,yAL];omega
 rw[e]at hx hl ⊢;have hm:=TA (w:=rM) (body:=kU ns) (S:=[C9]) (full:=λa=>bE (iB ns a)) xl (λa=>by unfold iB;rw[tU];exact⟨_,rfl⟩) rfl (λa ha n hm hxx=>aVE hn (hs a ha) hm (by
  have hmm:0<(bE (iB ns a)).length:=by unfold iB;rw[tU];simp
  obtain⟨u,hu,_⟩:=hm ((bE (iB ns a)).length-1) _ (yAh xb);have:=(yA.1 hu).1;omega) hxx) h5 hx hl
 simp only[fJ,aQ,MT h1,aKU h2,show n+1+1+2=n+1+1+1+1 from rfl,K0 h4,hm,dT]
end
theorem Ms.len{l:List Tk}{n:Nat}{ts:List Tk}(h:Ms l n ts)(h0:0<ts.length):n+ts.length<=l.length:=by
 obtain⟨u,hu,_⟩:=h (ts.length-1) _ (yAh xb);have:=(yA.1 hu).1;omega
theorem aVG{ns:List (List UInt8)}{s:dL}:0<(bE (dB ns s)).length:=by unfold dB;rw[tU];simp
theorem aVH{ns:List (List UInt8)}{s:b9}:0<(bE (gQ ns s)).length:=by unfold gQ;rw[tU,yAa,yAK];omega
theorem aVI{ns:List (List UInt8)}(hn:ns.Nodup){d:b9}(hs:∀s∈d.stops,XT ns.length s){l:List Tk}{n:Nat}(h:Ms l n (bE (gQ ns d)))(hx:jM l (n+(bE (gQ ns d)).length) [FH,rM,C9]):iT ns l (n+1)=.ok (d,n+(bE (gQ ns d)).length):=by
 have hl:=h.len aVH;unfold gQ at h hx hl ⊢;rw[tU,aFe]at h hx hl ⊢;obtain⟨nm,pd,lo,hi,ss⟩:=d;simp only[ID]at h hx hl ⊢;have many:∀k,Ms l k (ss.flatMap λa=>bE (dB ns a))->jM l (k+(ss.flatMap λa=>bE (dB ns a)).length) [FH,rM,C9]->k+(ss.flatMap λa=>bE (dB ns a)).length<=l.length->nI FH (fJ ns) l k=.ok (ss,k+(ss.flatMap λa=>bE (dB ns a)).length):=λk h5 hx hl=>
  TA (w:=FH) (body:=fJ ns) (S:=[rM,C9]) (full:=λa=>bE (dB ns a)) xl (λa=>by unfold dB;rw[tU];exact⟨_,rfl⟩) rfl (λa ha n hm hxx=>aVF hn (hs a ha) hm (hm.len aVG) hxx) h5 hx hl
 cases pd with
 |true=>
  simp only[yAM,yAR,yAQ]at h hx hl ⊢;have h1:=h.cons.2;have h2:=h1.cons.2;have h3:=h2.cons.2;have h4:=h3.cons.2;have h5:=h4.cons.2;have h6:=h5.cons.2;have h7:=h6.cons.2;have e:n+(wT MP::wT nm::wT S5::wT rM::nT lo::nT hi::eT::ss.flatMap λa=>bE (dB ns a)).length=n+1+1+1+1+1+1+1+(ss.flatMap λa=>bE (dB ns a)).length:=by simp only[yAK];omega
  rw[e]at hx hl ⊢;simp only[iT,aQ,MT h1,aKR h2,wC h3,IK h4,IK h5,K0 h6,many _ h7 hx hl,dT]
 |false=>
  simp only[yAx,yAN,yAR,yAQ]at h hx hl ⊢;have h1:=h.cons.2;have h2:=h1.cons.2;have h3:=h2.cons.2;have h4:=h3.cons.2;have h5:=h4.cons.2;have h6:=h5.cons.2;have e:n+(wT MP::wT nm::wT rM::nT lo::nT hi::eT::ss.flatMap λa=>bE (dB ns a)).length=n+1+1+1+1+1+1+(ss.flatMap λa=>bE (dB ns a)).length:=by simp only[yAK];omega
  rw[e]at hx hl ⊢;simp only[iT,aQ,MT h1,aKT (w:=S5) h2 (.inr xl),wC h2,IK h3,IK h4,K0 h5,many _ h6 hx hl,dT]
theorem aVJ{r:bA}{l:List Tk}{n:Nat}(h:Ms l n (jL r++[eT])):iC l (n+1)=.ok (r,n+(jL r++[eT]).length):=by
 obtain⟨nm,tn,nu,de,fi,wd⟩:=r;simp only[jL,yAR]at h ⊢;have h1:=h.cons.2;have h2:=h1.cons.2;have h3:=h2.cons.2;have h4:=h3.cons.2;have h6:=h4.cons.2.cons.2;have h7:=h6.cons.2;have h8:=h7.cons.2;have h9:=h8.cons.2;have h10:=h9.app.2;rw[yAe]at h10;have e:n+(wT KV::wT nm::wT S2::wT tn::wT KW::fT nu de::wT S3::nT fi::wT S4::(wd.map nT++[eT])).length=n+1+1+1+1+1+1+1+1+1+wd.length+1:=by simp only[yAK,yAa,yAe,yAL];omega
 rw[e];simp only[iC,aQ,MT h1,wC h2,MT h3,aKU h4,show n+1+1+1+1+2=n+1+1+1+1+1+1 from rfl,wC h6,IK h7,wC h8,aVC xl h9,K0 h10,dT]
theorem aVK{ns:List (List UInt8)}(hn:ns.Nodup){c:eF}(h1:In ns.length c.lT)(h2:In ns.length c.dst){l:List Tk}{n:Nat}(h:Ms l n (iA ns c++[eT])):gD ns l (n+1)=.ok (c,n+(iA ns c++[eT]).length):=by
 obtain⟨nm,a,b,sh,th⟩:=c;simp only[iA,yAR]at h h1 h2 ⊢;have g1:=h.cons.2;have g2:=g1.cons.2;have g3:=g2.cons.2;have g4:=g3.cons.2;have g5:=g4.cons.2;have g6:=g5.cons.2;have g7:=g6.cons.2;have g8:=g7.cons.2;cases th with
 |true=>
  simp only[yAM,yAR,yAQ]at g8 ⊢;simp only[gD,aQ,MT g1,wC g2,XZ h1 hn g3,wC g4,XZ h2 hn g5,wC g6,IK g7,aKR g8,K0 g8.cons.2,dT];rfl
 |false=>
  simp only[yAx,yAN,yAQ]at g8 ⊢;simp only[gD,aQ,MT g1,wC g2,XZ h1 hn g3,wC g4,XZ h2 hn g5,wC g6,IK g7,aKT (w:=S6) g8 (.inl xl),K0 g8,dT];rfl
structure Reads (o:eG):Prop where
 rn:(o.bM.map bA.name).Nodup
 dn:(o.dY.map b9.name).Nodup
 dr:∀d∈o.dY,∀s∈d.stops,XT o.bM.length s
 cp:∀c∈o.oU,In o.dY.length c.lT/\In o.dY.length c.dst
theorem aVB{o:eG}(ho:Reads o){l:List Tk}(h:Ms l 0 (bE (tS o)))(hl:l.length=(bE (tS o)).length):jA l 0=.ok (o,l.length):=by
 obtain⟨nm,rs,ds,cs⟩:=o;obtain⟨rn,dn,dr,cp⟩:=ho;simp only at rn dn dr cp;unfold tS at h hl;rw[tU,S1,S1,aFf,aFe,aFf]at h hl;simp only at h hl;have h1:=h.cons.2;have h2:=h1.cons.2;have h3:=h2.cons.2;obtain⟨h4,h5⟩:=h3.app;obtain⟨h6,h7⟩:=h5.app;obtain⟨A,hA⟩:=gn ((rs.flatMap λa=>jL a++[eT]));obtain⟨B,hB⟩:=gn ((ds.flatMap λa=>bE (gQ (rs.map bA.name) a)));obtain⟨C,hC⟩:=gn ((cs.flatMap λa=>iA (ds.map b9.name) a++[eT]));rw[hA]at h4 h5 h6 h7 hl;rw[hB]at h6 h7 h5 hl;rw[hC]at h7 h5 hl;have hl':l.length=0+1+1+1+A.length+B.length+C.length:=by
  rw[hl];simp only[yAa,yAK,yAL];omega
 have nC:jM l (0+1+1+1+A.length+B.length+C.length) [O2]:=jM.eY xb;have nB:jM l (0+1+1+1+A.length+B.length) [MP,FH,rM,C9,KV]:=by
  cases cs with
  |nil=>simp only[yDd]at hC;subst hC;exact jM.eY (by rw[hl'];simp)
  |cons c cs=>
   rw[yBg]at hC;rw[<-hC]at h7;exact jM.word h7 xl
 have nA:jM l (0+1+1+1+A.length) [KV]:=by
  cases ds with
  |nil=>
   simp only[yDd]at hB;subst hB;exact jM.sub nB λw hw=>by simp at hw;simp[hw]
  |cons d ds=>
   rw[yBg]at hB;rw[<-hB]at h6;unfold gQ at h6;rw[tU]at h6;exact jM.word h6 xl
 have k1:=TA (w:=KV) (body:=iC) (S:=[]) (full:=λa=>jL a++[eT]) wz (λa=>⟨_,rfl⟩) hA (λa ha n hm _=>aVJ hm) h4 nA xb;have k2:=TA (w:=MP) (body:=iT (rs.map bA.name)) (S:=[FH,rM,C9]) (full:=λa=>bE (gQ (rs.map bA.name) a)) xl (λa=>by unfold gQ;rw[tU];exact⟨_,rfl⟩) hB (λa ha n hm hx=>aVI rn (by rw[yAe];exact dr a ha) hm hx) h6 (nB.sub (by intro w hw;simp at hw;rcases hw with h|h|h|h<;>simp[h])) xb;have k3:=TA (w:=O2) (body:=gD (ds.map b9.name)) (S:=[]) (full:=λa=>iA (ds.map b9.name) a++[eT]) wz (λa=>⟨_,rfl⟩) hC (λa ha n hm _=>aVK dn (by rw[yAe];exact(cp a ha).1) (by rw[yAe];exact(cp a ha).2) hm) h7 nC xb;have k4:FK l (0+1+1+1+A.length+B.length+C.length)=.ok ((),l.length):=by simp[FK,<-hl']
 simp only[jA,aQ,wC h,MT h1,K0 h2,k1,k2,k3,k4,dT]
end
theorem IG{w:Bx}(h:dR w=true):oC (wT w):=by
 cases w with
 |nil=>cases h
 |cons c r=>
  simp only[dR,yAr,yBx,yAn]at h;obtain⟨⟨h1,h2⟩,h3⟩:=h;have hL:∀n:Int,pQ n=true->lS n=true:=λn h=>by
   simp only[pQ,lS,yBf,yAr,yBx]at h ⊢;omega
  have hc:lS c.toNat=true:=hL _ h2;have hw:∀b∈c::r,mZ b.toNat=true:=λb hb=>by
   rcases yAS.1 hb with rfl|hb
   .simp[mZ,hc]
   .have:=h3 b hb;simp only[wB,pQ,yBf,yAr,yBx]at this;simp only[mZ,lS,bT,yBf,yAr,yBx];omega
  refine O6 (w:=c::r) rfl (by simp[wT]) wz xb (λb hb e=>?_) ?_ λq hq=>by rw[aVr (by rw[lX];exact hc) hw h1 hq];rfl
  .have:=hw b hb;rw[e]at this
   revert this
   decide
  .rw[lX];refine⟨λe=>?_,λe=>?_,λe=>?_⟩<;>(rw[e]at hc;revert hc;decide)
theorem MQ{n:Int}(h:-1000000000<=n/\n<=1000000000):oC (nT n):=by
 have hd:∀n,∀b∈Lib.decDigits n,b≠10:=λn b hb e=>by
  have:=nK n b hb;subst e
  revert this
  decide
 by_cases h0:0<=n
 .obtain⟨v,rfl⟩:∃k:Nat,n=k:=⟨n.toNat,xb⟩;have l1:=O7 9 v xb;have n1:=MS v;have hb:=aFb (nK v) n1;exact O6 (w:=Lib.decDigits v) (by simp[nT,eP,IH]) (by simp[nT]) n1 xb (hd v) xb λr hr=>by rw[aKI xb hr];simp[nT,IH]
 .obtain⟨v,hv,rfl⟩:∃k:Nat,0<k/\n=-(k:Int):=⟨(-n).toNat,xb,xb⟩;have l1:=O7 9 v xb;refine O6 (w:=45::Lib.decDigits v) (by simp[nT,eP,itoa_neg hv]) (by simp[nT]) wz (by rw[yAK];omega) ?_ ym λr hr=>by rw[aKJ xb hv hr];simp[nT,itoa_neg hv]
  exact qp
theorem SZ{x y:Int}(h:kS x y=0):0<y/\y<=1000000/\-1000000<=x/\x<=1000000/\Nat.gcd x.natAbs y.toNat=1:=by
 unfold kS at h;split at h
 .cases h
 .rename_i h1;simp only[not_or,Int.not_le,Int.not_lt,ne_eq,Classical.not_not]at h1;omega
theorem aKs{x y:Int}(h:kS x y=0)(hx:0<=x):oC (fT x y):=by
 obtain⟨h1,h2,h3,h4,h5⟩:=SZ h;obtain⟨a,rfl⟩:∃k:Nat,x=k:=⟨x.toNat,xb⟩;obtain⟨b,rfl⟩:∃k:Nat,y=k:=⟨y.toNat,xb⟩;have hg:a.gcd b=1:=by simpa using h5
 obtain⟨_,f2,f3,f4,f5⟩:=OV hg xb xb xb [];have O3:pk (gH a b++[39]) 0=pk (gH a b) 0:=II f4;have hb:=aFc (b:=(gH a b)[0]'f4) (by rw[<-oT f4];exact f2);rw[<-oT f4]at hb;refine O6 (w:=gH a b++[39]) (by simp[fT,eP]) (by simp[fT]) wz ye ?_ (by rw[O3];omega) ?_
 .exact ki
 .intro r _;rw[(OV hg xb xb xb r).1];simp[fT]
theorem aBf{x y:Int}(h:mP x y=0):kS x y=0/\0<x:=by
 unfold mP at h;split at h
 .cases h
 .rename_i h1;split at h
  .cases h
  .rename_i h2;exact⟨yb,xb⟩
theorem aKK{x y:Int}(h:mP x y=0):oC (fT x y):=aKs (aBf h).1 (Int.le_of_lt (aBf h).2)
theorem aE2{r:bA}(h:pR r=0):dR r.name=true/\dR r.E3=true/\mP r.num r.den=0/\(-256<=r.first/\r.first<=256)/\r.nD.length<=128/\∀w∈r.nD,0<=w/\w<=1000000:=by
 unfold pR at h;split at h
 .cases h
 rename_i h1;split at h
 .rename_i h2;exact absurd h h2
 rename_i h2;split at h
 .cases h
 rename_i h3;split at h
 .cases h
 split at h
 .cases h
 rename_i h5;split at h
 .cases h
 rename_i h6;simp only[not_or,Bool.not_eq_false]at h1;refine⟨h1.1,h1.2,Aj,zf,xb,λw hw=>?_⟩;rw[yBW,List.any_eq_false]at h6;have:=h6 w hw;simp only[kV,yBf,yBx]at this;omega
theorem aKL(k:Nat)(lo hg:Int):∀(l:List kJ) (pv:Option Int),O8 k lo hg pv l=0->∀g∈l,(lo<=g.lo/\g.lo<=hg/\lo<=g.hi/\g.hi<=hg)/\FJ k g.rI=0
 | [],_,_,g,hg=>Ay
 |x::l,pv,h,g,hm=>by
  unfold O8 at h;split at h
  .cases h
  rename_i h1;split at h
  .cases h
  split at h
  .rename_i h3;exact absurd h h3
  rename_i h3;rcases yAS.1 hm with rfl|hm
  .exact⟨xb,zf⟩
  .exact aKL k lo hg l _ h g hm
theorem aBj{k:Nat}{lo hg:Int}{l:List kJ}(h:S9 k lo hg l=0):∀g∈l,(lo<=g.lo/\g.lo<=hg/\lo<=g.hi/\g.hi<=hg)/\FJ k g.rI=0:=by
 unfold S9 at h;split at h
 .cases h
 split at h
 .cases h
 exact aKL k lo hg l _ h
theorem aKM(k:Nat):∀(l pre:List fV),O9 k pre l=0->∀w∈l,(0<=w.bO/\w.bO<k)/\-127<=w.shift/\w.shift<=127
 | [],_,_,w,hw=>by cases hw
 |d::r,pre,h,w,hw=>by
  unfold O9 at h;split at h
  .cases h
  split at h
  .cases h
  split at h
  .cases h
  rcases yAS.1 hw with rfl|hw
  .omega
  .exact aKM k r _ h w hw
theorem aBi{k:Nat}{l:List fV}(h:FJ k l=0):∀w∈l,(0<=w.bO/\w.bO<k)/\-127<=w.shift/\w.shift<=127:=by
 unfold FJ at h;split at h
 .cases h
 exact aKM k l _ h
theorem aBh{lo hi:Int}(h:lG lo hi=0):0<=lo/\hi<=127/\lo<=hi:=by
 unfold lG at h;split at h
 .cases h
 split at h
 .cases h
 omega
def Names(ns:List (List UInt8)):Prop:=∀n∈ns,dR n=true
theorem Names.at{ns:List (List UInt8)}(h:Names ns){i:Int}(hi:0<=i/\i<ns.length):dR (ns.getD i.toNat [])=true:=by
 rw[yAA,yAh xb];exact h _ (yAm _)
theorem aVs:∀w∈[C7,KV,MP,FH,rM,C9,O2,S2,KW,S3,S4,S5,XQ,XR,XS,S6],dR w=true:=xl
theorem oD{w:Bx}(h:w∈[C7,KV,MP,FH,rM,C9,O2,S2,KW,S3,S4,S5,XQ,XR,XS,S6]):oC (wT w):=IG (aVs w h)
theorem aVt{r:bA}(h:pR r=0):∀t∈jL r,oC t:=by
 obtain⟨h1,h2,h3,h4,_,h5⟩:=aE2 h;intro t ht;simp only[jL,yAS,yAw]at ht;rcases ht with rfl|rfl|rfl|rfl|rfl|rfl|rfl|rfl|rfl | ⟨w,hw,rfl⟩
 .exact br
 .exact IG h1
 .exact br
 .exact IG h2
 .exact br
 .exact aKK h3
 .exact br
 .exact jj
 .exact br
 .have:=h5 w hw;exact jj
theorem aVu{ns:List (List UInt8)}(hn:Names ns){d:fV}(h:0<=d.bO/\d.bO<ns.length)(hs:-127<=d.shift/\d.shift<=127):∀t∈kT ns d,oC t:=by
 intro t ht;simp only[kT,yAS,yBh,yBi]at ht;rcases ht with rfl|rfl|rfl
 .exact br
 .exact IG (hn.at h)
 .exact jj
theorem aVv{ns:List (List UInt8)}(hn:Names ns){s:dL}{lo hg:Int}(h1:dR s.name=true)(h2:mP s.num s.den=0)(h3:S9 ns.length lo hg s.E4=0)(h4:0<=lo/\hg<=127):OW (dB ns s):=by
 intro x hx;simp only[dB,yAS,yCG]at hx;rcases hx with rfl | ⟨g,hg,hx⟩
 .refine⟨wz,λt ht=>?_⟩;simp only[yAS,yBh,yBi]at ht;rcases ht with rfl|rfl|rfl|rfl
  .exact br
  .exact IG h1
  .exact br
  .exact aKK h2
 .obtain⟨hb,hd⟩:=aBj h3 g hg;simp only[iB,yAS,yAw]at hx;rcases hx with rfl | ⟨d,hd',rfl⟩
  .refine⟨wz,λt ht=>?_⟩;simp only[yAS,yBh,yBi]at ht;rcases ht with rfl|rfl|rfl
   .exact br
   .exact jj
   .exact jj
  .obtain⟨k1,k2⟩:=aBi hd d hd';exact⟨by simp[kT],aVu hn k1 k2⟩
theorem aVw{d:b9}(h1:dR d.name=true)(h2:lG d.low d.high=0):ID d≠[]/\∀t∈ID d,oC t:=by
 have hb:=aBh h2;refine⟨by simp[ID],λt ht=>?_⟩;simp only[ID,yAS,yBn,yBh,yBi]at ht;rcases ht with rfl|rfl|ht|rfl|rfl|rfl
 .exact br
 .exact IG h1
 .exact uz
 .exact br
 .exact jj
 .exact jj
theorem aVx{ns:List (List UInt8)}(hn:Names ns){c:eF}(h1:dR c.name=true)(h2:0<=c.lT/\c.lT<ns.length)(h3:0<=c.dst/\c.dst<ns.length)(h4:-127<=c.shift/\c.shift<=127):iA ns c≠[]/\∀t∈iA ns c,oC t:=by
 refine⟨by simp[iA],λt ht=>?_⟩;simp only[iA,yAS]at ht;rcases ht with rfl|rfl|rfl|rfl|rfl|rfl|rfl|rfl|ht
 .exact br
 .exact IG h1
 .exact br
 .exact IG (hn.at h2)
 .exact br
 .exact IG (hn.at h3)
 .exact br
 .exact jj
 .exact uz
theorem aKN{o:eG}(h:gI o=0):Names (o.bM.map bA.name)/\Names (o.dY.map b9.name):=by
 obtain⟨_,h2,h3,_⟩:=(OY o).1 h;refine⟨λn hn=>?_,λn hn=>?_⟩
 .obtain⟨r,hr,rfl⟩:=yAw.1 hn;exact(aE2 (h2.2.1 r hr)).1
 .obtain⟨d,hd,rfl⟩:=yAw.1 hn;exact(h3.2.1 d hd).1
theorem aKO{o:eG}(h:gI o=0){d:b9}(hd:d∈o.dY){s:dL}(hs:s∈d.stops):OW (dB (o.bM.map bA.name) s)/\XT (o.bM.map bA.name).length s:=by
 obtain⟨_,h2,h3,_⟩:=(OY o).1 h;obtain⟨k1,_,k2,_⟩:=(S0 _ _).1 (h3.2.1 d hd).2;obtain⟨_,q1,q2,q3⟩:=(aBg _ _ _ _).1 (k2 s hs);have hb:=aBh k1;refine⟨aVv (aKN h).1 q1 q2 (lo:=d.low) (hg:=d.high) (by rw[yAe];exact q3) ⟨hb.1,hb.2.1⟩,λg hg w hw=>?_⟩;rw[yAe];exact(aBi (aBj q3 g hg).2 w hw).1
theorem aVy{o:eG}(h:gI o=0):Reads o:=by
 obtain⟨_,h2,h3,_,h4,_⟩:=(OY o).1 h;refine⟨h2.2.2,h3.2.2,λd hd s hs=>by simpa using(aKO h hd hs).2,λc hc=>?_⟩;have:=(h4 c hc).2.1;exact⟨⟨this.1,this.2.1⟩,this.2.2⟩
theorem aVz{o:eG}(h:gI o=0):OW (tS o):=by
 obtain⟨h1,h2,h3,_,h4,_⟩:=(OY o).1 h;obtain⟨hR,hD⟩:=aKN h;intro x hx;simp only[tS,yAS,yBn,yAw,yCG]at hx;rcases hx with rfl | ⟨r,hr,rfl⟩ | ⟨d,hd,hx⟩ | ⟨c,hc,rfl⟩
 .refine⟨wz,λt ht=>?_⟩;simp only[yAS,yBh,yBi]at ht;rcases ht with rfl|rfl
  .exact br
  .exact IG h1
 .exact⟨by simp[jL],aVt (h2.2.1 r hr)⟩
 .simp only[gQ,yAS,yCG]at hx;rcases hx with rfl | ⟨s,hs,hx⟩
  .exact aVw (h3.2.1 d hd).1 ((S0 _ _).1 (h3.2.1 d hd).2).1
  .exact(aKO h hd hs).1 x hx
 .obtain⟨k1,k2,k3,_⟩:=h4 c hc;exact aVx hD k1 (by rw[yAe];exact⟨k2.1,k2.2.1⟩) (by rw[yAe];exact k2.2.2) k3
theorem aKt{L:List (List Tk)}(h:OW L)(hl:(bE L).length<=19999)(ht:(jC L).length<=65536):∃b,jZ (jC L)=(b,(0,0),0)/\Ms b 0 (bE L)/\b.length=(bE L).length:=by
 obtain⟨b,h1,h2⟩:=aVA (aKP h) 1 [] Ad;rw[aKQ h,yAQ]at h1;refine⟨b,?_,Ms.of h2,aFd h2⟩;unfold jZ;rw[yAI xb,h1]
theorem aVq{o:eG}(h:gI o=0)(hl:(bE (tS o)).length<=19999)(ht:(vZ o).length<=65536):∃b,jZ (vZ o)=(b,(0,0),0)/\jA b 0=.ok (o,b.length):=by
 obtain⟨b,h1,h2,h3⟩:=aKt (aVz h) hl ht;exact⟨b,h1,aVB (aVy h) h2 h3⟩
def XV(t:Tk):Prop:=(0<t.kind/\0<t.line)/\jD t.text
theorem aVl{s:Bx}:(cY s).2.2=0->0<(cY s).1.kind:=by
 unfold cY;intro h
 repeat' split
 all_goals simp_all [aKF,aKG,bD]
theorem aVm{p:EY}(h:(gZ p).2=0):(gZ p).1.text.length<=202:=by
 have:=(aVn h).len;have k:=aKF h;simpa [eP,k]using this
theorem aKH{p:Bx}(h:(iR p).2=0):(iR p).1.text.length<=202:=by
 have:=(aVo h).len;have k:=aKG h;simpa [eP,k]using this
theorem aVp{s:Bx}(hl:s.length<=65536):(cY s).2.2=0->jD (cY s).1.text:=by
 unfold cY jD;intro h;split
 .rename_i c;rw[yAJ c]at h;split
  .simp[bD]
  .simp only[yAt];omega
 .rename_i c;rw[yAI c]at h;split
  .rename_i c2;rw[yAJ c2]at h;split
   .rename_i c3;rw[yAJ c3]at h;have:=aVm h;exact cz
   .rename_i c3;rw[yAI c3]at h;have:=aKH h;exact cz
  .rename_i c2;rw[yAI c2]at h;split
   .rename_i c3;rw[yAJ c3]at h;have:=aKH h;exact cz
   .split
    .split
     .simp[bD]
     .simp only[yAt,yBe];omega
    .split
     .simp only[yAt];omega
     .split
      .simp only[yAt];omega
      .simp[bD]
theorem aE7:∀(n:Nat) (r:List UInt8) (ln bR:Int) (out:List Tk),0<ln->r.length<=65536->(∀t∈out,XV t)->∀t∈(jK n r ln bR out).1,XV t
 |0,_,_,_,_,_,_,h=>h
 |n+1,r,ln,bR,out,hl,hr,h=>by
  unfold jK;split
  .exact h
  .split
   .exact aE7 n _ _ _ _ hl (by rw[yBe];omega) h
   .split
    .exact h
    .rename_i hz;have hz:(cY r).2.2=0:=by simpa using hz
     split
     .exact h
     .refine aE7 n _ _ _ _ hl (by rw[yBe];omega) λt ht=>?_
      rcases yBn.1 ht with ht|ht
      .exact h t ht
      .simp only[yC]at ht;subst ht;exact⟨⟨aVl hz,hl⟩,aVp hr hz⟩
theorem aE8:∀(L:List (List UInt8)) (ln:Int) (out:List Tk),0<ln->(∀l∈L,l.length<=65536)->(∀t∈out,XV t)->out.length<=20000->(∀t∈(oB L ln out).1,XV t)/\(oB L ln out).1.length<=20000
 | [],_,_,_,_,h,hl=>⟨h,hl⟩
 |l::L,ln,out,h0,hL,h,hl=>by
  have h1:=aE7 (l.length+1) l ln 1 out h0 (hL l (yBa ..)) h;have h2:=aA7 (l.length+1) l ln 1 out hl;have hL':∀x∈L,x.length<=65536:=λx hx=>hL x (yBE _ hx)
  unfold oB;split
  .simp
  .split
   .exact aE8 L _ _ xb hL' h hl
   .split
    .simp
    .rename_i hne;refine aE8 L _ _ xb hL' (λt ht=>?_) ye;rcases yBn.1 ht with ht|ht
     .exact h1 t ht
     .simp only[yC]at ht;subst ht;exact⟨⟨by show(0:Int)<6;decide,h0⟩,by simp[jD]⟩
theorem aE9(s:List UInt8):(∀t∈(jZ s).1,XV t)/\(jZ s).1.length<=20000:=by
 unfold jZ;split
 .simp
 .rename_i h;exact aE8 _ 1 [] xl (λl hl=>by have:=(aEL s).2 l hl;omega) wz wz
theorem aVk(s:List UInt8):XW (jZ s).1:=λt ht=>((aE9 s).1 t ht).1
def RdB(l:List Tk):Prop:=(∀t∈l,jD t.text)/\l.length<=100000
theorem aVj(s:List UInt8):RdB (jZ s).1:=⟨λt ht=>((aE9 s).1 t ht).2,by have:=(aE9 s).2;omega⟩
def bQ{α:Type}(x:Pm α)(P:α->Prop):Prop:=∀l n a n',RdB l->n<=l.length->x l n=.ok (a,n')->P a
theorem bQ.any{α:Type}{x:Pm α}:bQ x (λ_=>True):=λ_ _ _ _ _ _ _=>trivial
theorem bQ.ret{α:Type}{a:α}{P:α->Prop}(h:P a):bQ (dT a) P:=by
 intro l n b n' _ _ e;simp only[dT,yBj,yAc]at e;rw[<-e.1];exact h
theorem bQ.then'{α β:Type}{x:Pm α}{f:α->Pm β}{P:α->Prop}{Q:β->Prop}(hx:bQ x P)(hF:aP x)(hf:∀a,P a->bQ (f a) Q):bQ (aQ x f) Q:=by
 intro l n b n' hB hn h;unfold aQ at h;split at h
 .rename_i a n1 h1;exact hf a (hx l n a n1 hB hn h1) l n1 b n' hB (hF l n a n1 hn h1).2 h
 .cases h
theorem bQ.take{k:Int}:bQ (lF k) (λt=>jD t.text):=by
 intro l n b n' hB hn h;unfold lF at h;split at h
 .rename_i hk;simp only[yBj,yAc]at h;obtain⟨t,h1,_,h3⟩:=IF hk;rw[h3]at h;rw[<-h.1];exact hB.1 t (yAE h1)
 .cases h
theorem bQ.name:bQ pP jD:=bQ.then' .take .take λt ht=>.ret ht
theorem bQ.nD:bQ FI okI:=by
 intro l n b n' hB hn h;simp only[FI,yBj,yAc]at h;have h1:=aFa (l.drop n);have h2:=hB.2;rw[yBe,h.1]at h1;unfold okI;omega
theorem bQ.many{α:Type}{w:Bx}{b:Pm α}{P:α->Prop}(hb:bQ b P)(hF:aP b):bQ (nI w b) (λr=>r.length<=100000/\∀a∈r,P a):=by
 have key:∀(f:Nat) (acc:List α) (l:List Tk) (n:Nat) (r:List α) (n':Nat),RdB l->n<=l.length->acc.length<=n->(∀a∈acc,P a)->nJ w b f acc l n=.ok (r,n')->r.length<=100000/\∀a∈r,P a:=by
  intro f
  induction f with
  |zero=>
   intro acc l n r n' hB hn hl ha h;simp only[nJ,yBj,yAc]at h;have:=hB.2;rw[<-h.1];exact⟨xb,ha⟩
  |succ f ih=>
   intro acc l n r n' hB hn hl ha h;unfold nJ at h;split at h
   .rename_i hk;obtain⟨t,h1,_,h3⟩:=IF hk;have hlt:=(yA.1 h1).1;rw[h3]at h;simp only at h;split at h
    .rename_i a n2 h4;have h5:=hF l (n+1) a n2 xb h4;refine ih (acc++[a]) l n2 r n' hB h5.2 ye (λx hx=>?_) h;rcases yBn.1 hx with hx|hx
     .exact ha x hx
     .simp only[yC]at hx;subst hx;exact hb l (n+1) _ n2 hB xb h4
    .cases h
   .simp only[yBj,yAc]at h;have:=hB.2;rw[<-h.1];exact⟨xb,ha⟩
 intro l n r n' hB hn h;exact key _ [] l n r n' hB hn wz wz h
theorem bQ.bO:bQ iC S8:=bQ.then' .name .name λ_ h1=>bQ.then' .any .key λ_ _=>bQ.then' .name .name λ_ h2=>bQ.then' .any .cB λ_ _=>bQ.then' .any .key λ_ _=>bQ.then' .any .num λ_ _=>bQ.then' .any .key λ_ _=>bQ.then' .nD .nD λ_ h3=>bQ.then' .any .eY λ_ _=>.ret ⟨h3,h1,h2⟩
theorem bQ.cD{r:List (List UInt8)}:bQ (kU r) okG:=bQ.then' .any .num λ_ _=>bQ.then' .any .num λ_ _=>bQ.then' .any .eY λ_ _=>bQ.then' (.many (P:=λ_=>True) .any .draw) (.many .draw) λ_ h=>.ret (show _<=_ by have:=h.1;simp only;omega)
theorem bQ.stop{r:List (List UInt8)}:bQ (fJ r) XX:=bQ.then' .name .name λ_ h1=>bQ.then' .any .cB λ_ _=>bQ.then' .any .eY λ_ _=>bQ.then' (.many .cD .cD) (.many .cD) λ_ h=>.ret ⟨⟨by have:=h.1;simp only;omega,h.2⟩,h1⟩
theorem bQ.div{r:List (List UInt8)}:bQ (iT r) O5:=bQ.then' .name .name λ_ h1=>bQ.then' .any .is λ_ _=>bQ.then' .any .key λ_ _=>bQ.then' .any .num λ_ _=>bQ.then' .any .num λ_ _=>bQ.then' .any .eY λ_ _=>bQ.then' (.many .stop .stop) (.many .stop) λ_ h=>.ret ⟨h1,by have:=h.1;simp only;omega,h.2⟩
theorem bQ.cF{r:List (List UInt8)}:bQ (gD r) (λc=>jD c.name):=bQ.then' .name .name λ_ h1=>bQ.then' .any .key λ_ _=>bQ.then' .any .index λ_ _=>bQ.then' .any .key λ_ _=>bQ.then' .any .index λ_ _=>bQ.then' .any .key λ_ _=>bQ.then' .any .num λ_ _=>bQ.then' .any .is λ_ _=>bQ.then' .any .eY λ_ _=>.ret h1
theorem bQ.fC:bQ jA FE:=bQ.then' .any .key λ_ _=>bQ.then' .name .name λ_ h1=>bQ.then' .any .eY λ_ _=>bQ.then' (.many .bO .bO) (.many .bO) λ_ h2=>bQ.then' (.many .div .div) (.many .div) λ_ h3=>bQ.then' (.many .cF .cF) (.many .cF) λ_ h4=>bQ.then' .any .done λ_ _=>.ret ⟨h1,⟨h2.2,by have:=h2.1;simp only;omega⟩,⟨by have:=h3.1;simp only;omega,h3.2⟩,by have:=h4.1;simp only;omega,h4.2⟩
def FF:eG:=⟨[],[],[],[]⟩
def aKE:dL:=⟨[],0,0,[]⟩
def aBr(l:List Tk):eG×(Int×Int)×Int:=match jA l 0 with
 |.error f=>(FF,(f.1,f.2.1),f.2.2)
 |.ok r=>if gI r.1≠0 then(FF,(0,0),gI r.1)else(r.1,(0,0),0)
def vY(s:List UInt8):eG×(Int×Int)×Int:=if (jZ s).2.2≠0 then(FF,(jZ s).2.1,(jZ s).2.2)else aBr (jZ s).1
theorem aU0{o:eG}(h:gI o=0)(hl:(bE (tS o)).length<=19999)(ht:(vZ o).length<=65536):vY (vZ o)=(o,(0,0),0):=by
 obtain⟨b,h1,h2⟩:=aVq h hl ht;simp[vY,h1,aBr,h2,h]
end Go.Kz
