/- Steps of the proof. -/
import Derived.Test.YtnogdlnjafblaaaGreatDoorP9
import Derived.Test.YtnogdlnjafblaaaGreatDoorP8
import Derived.Test.YtnogdlnjafblaaaGreatDoorG6
import Derived.Test.YtnogdlnjafblaaaGreatDoorP6
import Derived.Test.YtnogdlnjafblaaaGreatDoorP3
set_option linter.all false
set_option maxHeartbeats 40000000
set_option maxRecDepth 100000
open Go.Proofs.Tryz
noncomputable section
namespace Go.Kz
open Go Go.Proofs
section
def SB:Nat->List PD->List U->Option (PD×List U):=entry (aX .text (cM.J8 .pos i64) λs=>bJ ((s.length:Int)<4000000000) (some (jZ s)))
theorem aKu{s:Bx}(h:(s.length:Int)<4000000000){l:List Tk}{p1 p2 e:Int}(hS:jZ s=(l,(p1,p2),e))(fl:Nat)(σ:List U):SB fl [.str s] σ=some (.aK [cM.aA l,.agg [.int .i64 p1,.int .i64 p2],.int .i64 e],σ):=by
 have e1:Em.text.dec (.str s)=some s:=Em.cR rfl;unfold SB entry aX;exact ob
def SA:Nat->List PD->List U->Option (PD×List U):=entry (aX Em.fC i64 λo=>bJ (FE o) (some (gI o)))
theorem aE0{o:eG}(h:FE o)(fl:Nat)(σ:List U):SA fl [Em.fC.aA o] σ=some (.int .i64 (gI o),σ):=by
 have e1:=Em.cR (Em.fC.str o);unfold SA entry aX;exact gl
def RdO(E:aE):Prop:=∃g,E.ret 41=some g/\∀σ l,l.length<=100000->∃p σ',g 0 [cM.aA l] σ=some (p,σ')/\WR (jA l 0) Em.fC.aA 4 σ p σ'
theorem aVh{σ:Bv}{a b:U}(h0:σ[0]?=some a)(h1:σ[1]?=some b):∃J,σ=a::b::J:=by
 match σ,h0,h1 with
 | [],h0,_=>cases h0
 | [x],_,h1=>cases h1
 |x::y::J,h0,h1=>
  simp only[yBv,yBL,yAb]at h0 h1;exact⟨J,by rw[h0,h1]⟩
theorem aVi{cs:Bw}(h:cs.length=4)(hp:cs.all PD.plain=true):∃a b c d,cs=[a,b,c,d]/\a.plain=true/\b.plain=true/\c.plain=true/\d.plain=true:=by
 match cs,h with
 | [a,b,c,d],_=>
   simp only[yBG,yAr]at hp;exact⟨a,b,c,d,rfl,hp.1,hp.2.1,hp.2.2.1,hp.2.2.2.1⟩
variable{E:aE}(hU:aF E)
include hU
set_option maxRecDepth 10000
theorem aT3(h0:E 16=none)(h1:E 14=some SB)(h2:RdO E)(h3:E 25=some SA)(s:List UInt8)(hl:(s.length:Int)<4000000000):aI prog E 16 [.str s] ((Em.fC.J8 .pos i64).aA (vY s)):=by
 obtain⟨gR,hgR,hR⟩:=h2;obtain⟨l,p1,p2,e,hS⟩:∃l p1 p2 e,jZ s=(l,(p1,p2),e):=⟨_,_,_,_,rfl⟩;have hb:=aVj s;have ht:=aVk s;rw[hS]at hb ht;simp only at hb ht;have hsc:=aKu hl hS;obtain⟨q,σ',hr,hk,hlen,hq⟩:=hR [.box (.agg [.str [],.slice 0 [] .full,.slice 0 [] .full,.slice 0 [] .full]),.box (.agg [.int .i64 p1,.int .i64 p2])] l hb.2
 replace hlen:=yCS hlen
 obtain⟨J,rfl⟩:=aVh (hk 0 _ rfl) (hk 1 _ rfl);obtain⟨T,hT⟩:=gn (cM.aA l);rw[hT]at hsc hr;refine aI.aU 38 h0 func16 (h:=?_)
 by_cases he:e=0
 .subst he;rcases hq with⟨o,n,hO,rfl⟩ | ⟨f,cs,hE,rfl,hc,hp⟩
  .have hok:=bQ.fC l 0 o n hb (yAF _) hO;have hg:=aE0 hok;obtain⟨on,rs,od,oc⟩:=o;have hP:vY s=if gI ⟨on,rs,od,oc⟩≠0 then(FF,(0,0),gI ⟨on,rs,od,oc⟩)else(⟨on,rs,od,oc⟩,(0,0),0):=by simp[vY,hS,aBr,hO]
   simp only[E5,gA]at hg hr
   by_cases hc:gI ⟨on,rs,od,oc⟩=0
   .rw[hc]at hg;rw[hc,yAI wz]at hP;rw[hP];refine aD (A6 h1 hsc hgR hr h3 hg) ?_;exact aa
   .rw[yAJ hc]at hP;rw[hP];refine aD (A7 h1 hsc hgR hr h3 hg hc) ?_;simp(disch:=first|omega|(simp;done)|(simp;omega)) [yAu,FF,sz]<;>try rfl
  .obtain⟨a,b,c,d,rfl,q1,q2,q3,q4⟩:=aVi hc hp;obtain⟨f1,f2,f3⟩:=f;have hne:f3≠0:=(dC.fC.er l 0 _ ht (yAF _) hE).2.2;have hP:vY s=(FF,(f1,f2),f3):=by simp[vY,hS,aBr,hE]
   rw[hP];unfold PD.plain at q1 q2 q3 q4;refine aD (A9 h1 hsc hgR hr hne q1 q2 q3 q4) ?_;refine Wp.aAG hU [(2,0),(3,1)] [(some 1,some 0)] xo ⟨⟨0,rfl⟩,⟨0,rfl⟩,trivial⟩ xg ⟨xb,trivial⟩ ?_;refine jJ (A4 q1 q2 q3 q4) ?_;exact kj
 .have hP:vY s=(FF,(p1,p2),e):=by simp[vY,hS,he]
  rw[hP];refine aD (A3 h1 hsc @he) ?_;refine Wp.aAG hU [(2,0),(3,1)] [(some 1,some 0)] xo ⟨⟨0,rfl⟩,⟨0,rfl⟩,trivial⟩ xg ⟨xb,trivial⟩ ?_;refine bF @he ?_;exact kj
end
section
def aBe(x:CG):Prop:=(0<=x.1/\x.1<=1000000)/\0<x.2/\x.2<=1000000
def pN(x:CG):List UInt8:=gH x.1.toNat x.2.toNat++[39]
def H7:Nat->List PD->List U->Option (PD×List U):=entry (aX Em.mS .text λx=>bJ (aBe x) (some (pN x)))
theorem XH{x y:Int}(h:aBe (x,y))(fl:Nat)(σ:List U):H7 fl [.agg [.int .i64 x,.int .i64 y]] σ=some (.str (pN (x,y)),σ):=by
 have e1:Em.mS.dec (.agg [.int .i64 x,.int .i64 y])=some (x,y):=Em.cR (Em.mS.str (x,y));unfold H7 entry aX;exact gl
variable{E:aE}(hU:aF E)
include hU
set_option maxRecDepth 10000
theorem aTQ(h0:E 35=none)(h1:E 40=some H6)(a b:Nat)(hb:0<b)(XU:a<=1000000)(hb6:b<=1000000):aI prog E 35 [.agg [.int .i64 a,.int .i64 b]] (.str (gH a b++[39])):=by
 have q1:((a:Int).tdiv (b:Int))=((a/b:Nat):Int):=by rw[yDM xb];rfl
 have q2:((a:Int).tmod (b:Int))=((a%b:Nat):Int):=by rw[yDs xb];rfl
 have q3:(b:Int)≠0:=xb;have hq:a/b<=1000000:=yBd (yCH _ _) XU;have hr:a%b<=1000000:=yBd (Nat.mod_le _ _) XU;obtain⟨n,hn⟩:=gn (a/b);obtain⟨r,hr'⟩:∃n,a%b=n:=⟨_,rfl⟩;rw[hn]at q1 hq;rw[hr']at q2 hr;have l1:=FD n;have l2:=FD r;have l3:=FD b;have i1:=KQ (n:Int) ⟨xb,xb⟩;have i2:=KQ (r:Int) ⟨xb,xb⟩;have i3:=KQ (b:Int) ⟨xb,xb⟩;have l0:(Lib.itoa 0).length<=1:=FD 0;have i0:=KQ 0 ⟨xl,xl⟩;unfold gH;rw[hn,hr'];refine aI.aU 40 h0 func35 (h:=?_);exact ax
theorem aT8(h0:E 15=none)(h1:E 40=some H6)(a b:Nat)(hb:0<b)(XU:a<=1000000)(hb6:b<=1000000):aI prog E 15 [.agg [.int .i64 a,.int .i64 b]] (.str (gH a b++[39])):=by
 have q1:((a:Int).tdiv (b:Int))=((a/b:Nat):Int):=by rw[yDM xb];rfl
 have q2:((a:Int).tmod (b:Int))=((a%b:Nat):Int):=by rw[yDs xb];rfl
 have q3:(b:Int)≠0:=xb;have hq:a/b<=1000000:=yBd (yCH _ _) XU;have hr:a%b<=1000000:=yBd (Nat.mod_le _ _) XU;obtain⟨n,hn⟩:=gn (a/b);obtain⟨r,hr'⟩:∃n,a%b=n:=⟨_,rfl⟩;rw[hn]at q1 hq;rw[hr']at q2 hr;have l1:=FD n;have l2:=FD r;have l3:=FD b;have i1:=KQ (n:Int) ⟨xb,xb⟩;have i2:=KQ (r:Int) ⟨xb,xb⟩;have i3:=KQ (b:Int) ⟨xb,xb⟩;have l0:(Lib.itoa 0).length<=1:=FD 0;have i0:=KQ 0 ⟨xl,xl⟩;unfold gH;rw[hn,hr'];refine aI.aU 44 h0 func15 (h:=?_);exact ax
def MK(x:CG):Bx×Int:=if kS x.1 x.2≠0 then([],kS x.1 x.2)else if x.1<0 then([],3)else(pN x,0)
theorem aTS(h0:E 12=none)(h1:E 13=some R9)(h2:E 35=some H7)(x y:Int):aI prog E 12 [.agg [.int .i64 x,.int .i64 y]] ((Em.text.gP i64).aA (MK (x,y))):=by
 have g1:=aEW x y;unfold MK;refine aI.aU 15 h0 func12 (h:=?_)
 by_cases c1:kS x y=0
 .rw[yAI (by simpa using c1)];rw[c1]at g1;obtain⟨k1,k2,k3,k4,k5⟩:=SZ c1
  by_cases c2:x<0
  .rw[yAJ c2];refine aD (A3 h1 @g1 c2) ?_;exact aa
  .rw[yAI c2];have g2:=@XH x y ⟨⟨zi,k4⟩,k1,k2⟩;refine aD (A5 h1 @g1 c2 h2 @g2) ?_;exact aa
 .rw[yAJ c1];refine aD (A3 h1 @g1 c1) ?_;exact aa
end
end Go.Kz
namespace Go.Kz
section
def pO(E:aE)(f0:FuncId):cO:=λfl tg args σ=>match tg with
 |.inl f=>if f=f0 then cN E fl (.inl f) args σ else eU E fl (.inl f) args σ
 |.inr _=>none
def Z1(f0:FuncId):Op->Bool
 |.call { callee:=.value (.func f),.. }=>f==f0
 |.call { callee:=.value _,.. }=>true
 |_=>false
def aCt(f0:FuncId)(ops:Array Oper):Bool:=tJ ops.toList [] λms=>
 (List.range ops.size).all λi=>!eN (Z1 f0) ops.toList i||j9 ops.toList ms i
section
variable{P:Program}{E:aE}{fl:Nat}{fr:Bw}{σ:Bv}{f0:FuncId}
theorem aZB(hU:aF E){tg:FuncId ⊕ Nat}{args:Bw}{x:PD×Bv}(h:pO E f0 fl tg args σ=some x):cN E fl tg args σ=some x:=by
 cases tg with
 |inr id=>cases h
 |inl f=>
  simp only[pO]at h;split at h
  .exact h
  .exact aG9 hU h
theorem aZC(hU:aF E){op:Op}{x:PD×Bv}(h:bI P (pO E f0) fl fr σ op=some x):bI P (cN E) fl fr σ op=some x:=by
 unfold bI at *;cases hc:dI fr op with
 |some q=>
  obtain⟨tg,args⟩:=q;simp only[hc]at h ⊢;exact aZB hU h
 |none=>
  simp only[hc]at h ⊢;exact h
theorem aZD{op:Op}{x:PD×Bv}(hx:Z1 f0 op=false)(h:bI P (pO E f0) fl fr σ op=some x):bI P (eU E) fl fr σ op=some x:=by
 unfold bI at *;cases hc:dI fr op with
 |none=>
  simp only[hc]at h ⊢;exact h
 |some q=>
  obtain⟨tg,args⟩:=q;simp only[hc]at h ⊢;cases tg with
  |inr id=>cases h
  |inl f=>
   simp only[pO]at h;split at h
   .rename_i hf;subst hf
    exfalso
    cases op with
    |call c=>
     obtain⟨cal,args',ts⟩:=c;cases cal with
     |value v=>
      cases v with
      |func g=>
       simp only[Z1,beq_eq_false_iff_ne]at hx;simp only[dI,aT]at hc;split at hc
       .rename_i h1 _;simp only[yAb,PD.func.injEq]at h1;simp only[yAb,yAc,yCr]at hc;exact hx (h1.1.trans hc.1)
       all_goals first|(cases hc;done)|simp_all
      |_=>simp[Z1]at hx
     |builtin b=>simp[dI]at hc
     |invoke _ _=>simp[dI]at hc
    |_=>simp[dI]at hc
   .exact h
theorem Z2(hU:aF E){ops:Cb}:∀(l:List Oper) (i:Nat) (fr:List PD) (σ:List U) (x:Bw×List U),ops.toList.drop i=l->LP ops=true->aCt f0 ops=true ->
  dM P (pO E f0) fl ops l fr σ=some x->mB P (cN E) fl ops (flags ops i l) fr σ=some x
 | [],_,_,_,_,_,_,_,h=>h
 |o::l,i,fr,σ,x,hd,hm,ht,h=>by
  have ho:ops.toList[i]?=some o:=by
   exact uj
  have hd':ops.toList.drop (i+1)=l:=Be;have hi:i<ops.size:=by
   have:=(yA.1 ho).1;exact bn
  have hown:VA o.op=false\/CI ops i=true:=by
   have hm':=hm;rw[LP,nP]at hm';exact ff
  have hcx:Z1 f0 o.op=false\/CI ops i=true:=by
   have hm':=ht;rw[aCt,nP]at hm';exact ff
  simp only[dM]at h;simp only[flags,mB];split at h
  .rename_i hw;rw[yAJ hw];split at h
   .rename_i p σ1 hp;cases hf:(!cI o.op||CI ops i)with
    |true=>
     simp only[aZC hU hp];exact qj
    |false=>
     simp only[yDA,Bool.not_eq_false']at hf;obtain⟨eK,pD⟩:=hf;rw[pD]at hown hcx;have hop:VA o.op=false:=by simpa using hown
     have hp:=aZD (by simpa using hcx) hp;obtain⟨e1,e2⟩:=NL (P:=P) hU (bU:=max fl σ.length) (op:=o.op) (by
      cases hq:o.op with
      |box t x=>rw[hq]at hop;cases hop
      |call c=>
       exact gv
      |_=>rfl) eK hp
     simp only at e2;subst e2;simp only[e1,yCh,yAl];exact qj
   .cases h
  .rename_i hw;rw[yAI hw];exact qj
theorem WL.aU7(f0:FuncId){rd:Option Nat}{ms:List Nat}{Q:PO->Prop}{ops:Cb}{id:Nat}(hU:aF E)(hs:(vJ ops&&LP ops&&aCt f0 ops)=true)(h:SQ P (pO E f0) fl ops ops.toList fr σ (λfr' σ'=>Q ⟨.normal,fr',ms,σ'⟩)) :
  Wp P E rd (.region id ops true) fl fr ms σ Q:=by
 simp only[yAr,QV]at hs;obtain⟨fr',σ',h1,h2⟩:=h.ex;exact .draw hs.1.1 (Z2 hU _ 0 _ _ _ wz hs.1.2 hs.2 h1) h2
theorem WL.L0(f0:FuncId){rd:Option Nat}{ms:List Nat}{Q:PO->Prop}{ops:Cb}{id:Nat}{y:Code}(hU:aF E)(hs:(vJ ops&&LP ops&&aCt f0 ops)=true)(h:SQ P (pO E f0) fl ops ops.toList fr σ (λfr' σ'=>Wp P E rd y fl fr' ms σ' Q)) :
  Wp P E rd (.seq (.region id ops true) y) fl fr ms σ Q:=by
 simp only[yAr,QV]at hs;obtain⟨fr',σ',h1,h2⟩:=h.ex;exact .seq (.draw hs.1.1 (Z2 hU _ 0 _ _ _ wz hs.1.2 hs.2 h1) (.normal h2))
theorem aBp{g:Bq}{args:Bw}{p:PD}{σ':Bv}(h:E.ret f0=some g)(hg:g fl args σ=some (p,σ')):pO E f0 fl (.inl f0) args σ=some (p,σ'):=by
 simp only[pO,yAM,cN,h,hg]
theorem aBl{f:FuncId}{args:Bw}(h:f≠f0):pO E f0 fl (.inl f) args σ=eU E fl (.inl f) args σ:=by
 simp only[pO,yAI h]
end
end
end Go.Kz
namespace Go.Kz
open Go Go.Proofs
section
def S7(ws:List (List UInt8)):List UInt8:=Lib.join ws [32]++[10]
def OZ(id:Nat)(σ σ':List U):Prop:=∀(j:Nat) (o:PD),j≠id->σ[j]?=some (U.box o)->σ'[j]?=some (U.box o)
theorem eC.uniq{σ:Bv}{id:Nat}{s s':Bx}{k k':Int}(h:eC σ id s k)(h':eC σ id s' k'):s=s'/\k=k':=by
 obtain⟨p,z,tok,hb,_⟩:=h.ex;obtain⟨p',z',bY,hb',_⟩:=h'.ex;rw[hb]at hb';simp only[yAb,U.box.injEq,PD.typed.injEq,yBs,PD.slice.injEq,PD.int.injEq,yBI,yAW]at hb';refine⟨?_,hb'.2.2⟩;have h1:KL (bX s)=some s:=aAC s;rw[hb'.2.1.2.1]at h1;have h2:KL (bX s')=some s':=aAC s';rw[h2]at h1;exact(yBr h1).symm
theorem eC.lt{σ:Bv}{id:Nat}{s:Bx}{k:Int}(h:eC σ id s k):id<σ.length:=by
 obtain⟨p,z,tok,hb,_⟩:=h.ex;exact(yA.1 hb).1
theorem aKA{x:PD}{ws:List (List UInt8)}{s:Bx}(hx:x.strip=texts.aA ws)(h:SY ws s)(fl:Nat)(σ:List U):E8 fl [x,.str s] σ=some (.str (Lib.join ws s),σ):=by
 have e1:=Em.cR hx;have e2:Em.text.dec (.str s)=some s:=Em.cR rfl;unfold E8 entry cV;simp only[e1,e2,dN h];rfl
def W8(args:List PD)(σ:List U)(p:PD)(σ':List U):Prop:=σ≠[]/\p=.aK []/\∃id tok ws s k,args=[.ptr id 0,.slice 1 (ws.map PD.str) tok]/\eC σ id s k/\eC σ' id (s++S7 ws) (k+ws.length+1)/\OZ id σ σ'
def OT(E:aE):Prop:=∃g,E.ret 54=some g/\(∀fl args σ,0<fl->g fl args σ=none)/\∀σ id tok ws s k,eC σ id s k->SY ws [32]->s.length<=10000000000->0<=k->k<=1000000000 ->
 ∃σ',g 0 [.ptr id 0,.slice 1 (ws.map PD.str) tok] σ=some (.aK [],σ')/\eC σ' id (s++S7 ws) (k+ws.length+1)/\OZ id σ σ'
variable{E:aE}(hU:aF E)
include hU
set_option maxRecDepth 10000
theorem aU8(h0:E 54=none)(h1:E 45=some E8)(h2:E 103=some H0)(h3:E 112=some H2)
  {σ:Bv} {id:Nat} {tk:Tok} {ws:List (List UInt8)} {s:Bx} {k:Int} (hb:eC σ id s k) (hj:SY ws [32]) (hs:s.length<=10000000000) (hk0:0<=k) (hk:k<=1000000000) :
  cH prog E 0 (.inl 54) [.ptr id 0,.slice 1 (ws.map PD.str) tk] σ (W8 [.ptr id 0,.slice 1 (ws.map PD.str) tk] σ):=by
 have hx:(PD.slice 1 (ws.map PD.str) tk).strip=texts.aA ws:=by
  rw[PD.nQ,show(ws.map PD.str).map PD.strip=ws.map PD.str by rw[yBo];rfl];simp[Em.list,Em.aA,sz,hj.1]
 have hJ:=λfl σ=>aKA (fl:=fl) (σ:=σ) hx hj
 obtain⟨j1,j2,j3⟩:=hj;obtain⟨σ1,g1,b1,k1⟩:=hb.aU9 (Lib.join ws [32]) xb;obtain⟨σ2,g2,b2,k2⟩:=b1.aVa 10 10 rfl yo;obtain⟨p,z,tok,lR,RR,hc2⟩:=b2.ex;have hlt:=b2.lt;have aKB:=hb.lt;have hne:σ≠[]:=λe=>by rw[e]at aKB;exact absurd aKB (yDk _)
 have hL:(ws.length:Int)<=1000:=xb;have hpost:W8 [.ptr id 0,.slice 1 (ws.map PD.str) tk] σ (.aK []) (σ2.set id (.box (.typed 125 [p,.slice z (bX (s++Lib.join ws [32]++[10])) tok,.int .i64 (k+(ws.length+1))]))):=by
  refine⟨hne,rfl,id,tk,ws,s,k,rfl,hb,⟨p,z,tok,?_,RR,?_⟩,λj o hj ho=>?_⟩
  .rw[yAj hlt,S7,yAi,Int.add_assoc]
  .rw[S7,<-yAi];refine hc2.imp (λh=>h) λ⟨a1,a2,gC,a3,a4⟩=>⟨a1,a2,gC,a3,?_⟩
   rw[yAd (λe=>by rw[<-e,lR]at a4;cases a4)];exact a4
  .rw[yAd (yBc hj)];exact k2 j o hj (k1 j o hj ho)
 obtain⟨B,hB⟩:=gn (bX (s++Lib.join ws [32]++[10]));rw[hB]at lR hpost;obtain⟨y1,y2,y3,y4,y5,y6⟩:=aB lR;clear hU;refine cH.aU 24 h0 func54 (h:=?_);refine aD (A12 h1 hJ h2 @g1 h3 @g2 y1 y2 y3 y4 y5 y6) ?_;exact⟨_,_,rfl,hpost⟩
omit hU in
theorem OT.of{E0:aE}(hU:aF E0)(h0:E0 54=none)(h1:E0 45=some E8)(h2:E0 103=some H0)(h3:E0 112=some H2)
  (h:E.ret 54=some (mN prog E0 54 W8)):OT E:=by
 refine⟨_,h,aKz,λσ id tok ws s k hb hj hs hk0 hk=>?_⟩;obtain⟨p,σ',e,_,rfl,id',bY,ws',s',k',ea,b,b',kk⟩:=aE4 (aU8 hU h0 h1 h2 h3 (tk:=tok) hb hj hs hk0 hk);simp only[yBs,PD.ptr.injEq,PD.slice.injEq,yBI,yAW]at ea;obtain⟨rfl,hws,_⟩:=ea;have hw:ws'=ws:=by
  exact((List.map_inj_right (λa b (h:PD.str a=PD.str b)=>yf)).1 hws).symm
 subst hw;obtain⟨rfl,rfl⟩:=hb.uniq b;exact⟨σ',e,b',kk⟩
omit hU in
theorem IC(w:List UInt8):eP (wT w)=w:=rfl
omit hU in
theorem MO(n:Int):eP (nT n)=Lib.itoa n:=rfl
omit hU in
theorem XG(x y:Int):eP (fT x y)=pN (x,y):=rfl
omit hU in
theorem aE5:∀ {x:List Tk},x≠[]->Lib.join (x.map eP) [32]=j4 x
 | [],h=>absurd rfl h
 | [t],_=>by simp[Lib.join,j4,List.intercalate]
 |t::u::r,_=>by
  have ih:=aE5 (x:=u::r) wz;rw[j4,yAI wz,<-ih];simp[Lib.join,List.intercalate,List.intersperse]
omit hU in
theorem aBk(a b:List (List Tk)):jC (a++b)=jC a++jC b:=by simp[jC]
structure hH (aR:List U) (id:Nat) (s0:List UInt8) (k0:Int) (L:List (List Tk)) (σ:List U) (K:List (Nat×U)):Prop where
 bw:eC σ id (s0++jC L) (k0+(bE L).length)
 kp:∀(j:Nat) (o:PD),j≠id->aR[j]?=some (.box o)->σ[j]?=some (.box o)
 ks:∀p∈K,σ[p.1]?=some p.2/\p.1≠id/\∃o,p.2=U.box o
omit hU in
theorem hH.start{σ:Bv}{id:Nat}{s:Bx}{k:Int}(h:eC σ id s k):hH σ id s k [] σ []:=⟨by simpa [jC,bE]using h,λ_ _ _ h=>h,λp hp=>by cases hp⟩
omit hU in
theorem hH.box{aR σ:Bv}{id:Nat}{s0:Bx}{k0:Int}{L:List (List Tk)}{K:List (Nat×U)}(h:hH aR id s0 k0 L σ K)(o:PD):hH aR id s0 k0 L (σ++[.box o]) ((σ.length,.box o)::K):=
 ⟨h.bw.more,λj q hj e=>by have:=h.kp j q hj e;rw[yAg (yA.1 this).1];exact this,λp hp=>by
  rcases yAS.1 hp with rfl|hp
  .exact⟨wz,by have:=h.bw.lt;simp only;omega,o,rfl⟩
  .obtain⟨h1,h2⟩:=h.ks p hp;exact⟨Az,h2⟩⟩
omit hU in
theorem hH.sub{aR σ:Bv}{id:Nat}{s0:Bx}{k0:Int}{L:List (List Tk)}{K K':List (Nat×U)}(h:hH aR id s0 k0 L σ K)(hs:∀p∈K',p∈K):hH aR id s0 k0 L σ K':=⟨h.bw,h.kp,λp hp=>h.ks p (hs p hp)⟩
omit hU in
theorem hH.line{aR σ:Bv}{id:Nat}{s0:Bx}{k0:Int}{L:List (List Tk)}{K:List (Nat×U)}(h:hH aR id s0 k0 L σ K){g:Bq}
  (hC:∀σ id tok ws s k,eC σ id s k->SY ws [32]->s.length<=10000000000->0<=k->k<=1000000000->∃σ',g 0 [.ptr id 0,.slice 1 (ws.map PD.str) tok] σ=some (.aK [],σ')/\eC σ' id (s++S7 ws) (k+ws.length+1)/\OZ id σ σ')
  (x:List Tk) (hx:x≠[]) (hxl:x.length<=1000) (ht:(s0++jC (L++[x])).length<=1000000) (hk0:0<=k0) (hk:k0+(bE (L++[x])).length<=1000000) (tok:Tok) :
  ∃σ',g 0 [.ptr id 0,.slice 1 ((x.map eP).map PD.str) tok] σ=some (.aK [],σ')/\hH aR id s0 k0 (L++[x]) σ' K:=by
 have e1:jC (L++[x])=jC L++(j4 x++[10]):=by rw[aBk];simp[jC]
 have e2:(bE (L++[x])).length=(bE L).length+(x.length+1):=by rw[S1,yAa];simp[bE]
 rw[e1]at ht;simp only[yAa]at ht;obtain⟨σ',h1,h2,h3⟩:=hC σ id tok (x.map eP) _ _ h.bw ⟨yj,by rw[yAe];exact hxl,by rw[aE5 hx];omega⟩ yo xb xb;refine⟨σ',h1,⟨?_,λj o hj e=>h3 j o hj (h.kp j o hj e),λp hp=>?_⟩⟩
 .rw[e1,e2];rw[S7,aE5 hx,yAe,yAi]at h2;have:k0+(bE L).length+x.length+1=k0+((bE L).length+(x.length+1):Nat):=xb;rw[<-this];exact h2
 .exact oz
end
section
def XK(n:Int):Prop:=-1000000000<=n/\n<=1000000000
def XL(k:Nat)(s:dL):Prop:=XT k s/\aBe (s.num,s.den)/\∀g∈s.E4,XK g.lo/\XK g.hi/\∀d∈g.rI,XK d.shift
def wA(o:eG):List (List UInt8):=o.bM.map bA.name
def W9(args:List PD)(σ:List U)(p:PD)(σ':List U):Prop:=σ≠[]/\p=.aK []/\∃id o st s k,args=[.ptr id 0,Em.fC.aA o,Em.stop.aA st]/\eC σ id s k/\eC σ' id (s++KS (wA o) st) (k+(bE (dB (wA o) st)).length)/\OZ id σ σ'
def XA(E:aE):Prop:=∃g,E.ret 46=some g/\(∀fl args σ,0<fl->g fl args σ=none)/\∀σ id (o:eG) (st:dL) s k,eC σ id s k->XL o.bM.length st->(s++KS (wA o) st).length<=1000000->0<=k->k+(bE (dB (wA o) st)).length<=1000000 ->
 ∃σ',g 0 [.ptr id 0,Em.fC.aA o,Em.stop.aA st] σ=some (.aK [],σ')/\eC σ' id (s++KS (wA o) st) (k+(bE (dB (wA o) st)).length)/\OZ id σ σ'
theorem aE3{α β:Type}{l:List α}{i:Nat}(hi:i<l.length)(f:α->List β):l.flatMap f=(l.take i).flatMap f++(f l[i]++(l.drop (i+1)).flatMap f):=by
 conv=>lhs;rw[<-yCx i l]
 rw[yCv,yAq hi,yBg]
theorem aE1{α β:Type}{l:List α}{i:Nat}(hi:i<l.length)(f:α->β):l.map f=(l.take i).map f++(f l[i]::(l.drop (i+1)).map f):=by
 conv=>lhs;rw[<-yCx i l]
 rw[yAH,yAq hi,yB]
theorem KT{α:Type}{l:List α}{i:Nat}(hi:i<l.length):l.take (i+1)=l.take i++[l[i]]:=yBV hi
theorem aKx{s:Bx}{k:Int}{F:List (List Tk)}(ht:(s++jC F).length<=1000000)(hk:k+(bE F).length<=1000000){L R:List (List Tk)}(h:L++R=F):(s++jC L).length<=1000000/\k+(bE L).length<=1000000:=by
 subst h;rw[aBk]at ht;rw[S1]at hk;simp only[yAa]at *;omega
theorem MM{n:Int}(h:XK n)(fl:Nat)(σ:List U):H6 fl [.int .i64 n] σ=some (.str (Lib.itoa n),σ):=KQ n ⟨by have:=h.1;omega,by have:=h.2;omega⟩ fl σ
theorem O0:∀L:List (List Tk),L.length<=(bE L).length
 | []=>yAk _
 |x::L=>by
  have:=O0 L;rw[tU,yAa,yAK,yAK];omega
theorem aBo{α β:Type}{f:α->List β}(h:∀a,0<(f a).length):∀l:List α,l.length<=(l.flatMap f).length
 | []=>yAk _
 |a::l=>by
  have:=aBo h l;have:=h a;rw[yBg,yAa,yAK];omega
theorem KU{i:Nat}(h:i<=1000000):IntKind.i64.wrap ((i:Int)+1)=i+1:=by rw[yDx];omega
variable{E:aE}(hU:aF E)
include hU
set_option maxRecDepth 10000
theorem aU6(h0:E 46=none)(hL:OT E)(h1:E 35=some H7)(h2:E 40=some H6)
  {aC:Bv} {id:Nat} {s:Bx} {k:Int} (o:eG) (st:dL) (hb:eC aC id s k) (hst:XL o.bM.length st) (ht:(s++KS (wA o) st).length<=1000000) (hk0:0<=k) (hk:k+(bE (dB (wA o) st)).length<=1000000) :
  cH prog E 0 (.inl 46) [.ptr id 0,Em.fC.aA o,Em.stop.aA st] aC (W9 [.ptr id 0,Em.fC.aA o,Em.stop.aA st] aC):=by
 obtain⟨gL,hgL,hpL,hC⟩:=hL;have hpost:∀σ',eC σ' id (s++KS (wA o) st) (k+(bE (dB (wA o) st)).length)->OZ id aC σ'->W9 [.ptr id 0,Em.fC.aA o,Em.stop.aA st] aC (.aK []) σ':=λσ' b w=>⟨λe=>by have:=hb.lt;rw[e]at this;exact absurd this (yDk _),rfl,id,o,st,s,k,rfl,hb,b,w⟩
 obtain⟨ns,hns⟩:=gn (wA o);rw[hns]at ht hk hpost;obtain⟨on,rs,od,oc⟩:=o;obtain⟨sn,sx,sy,sg⟩:=st;obtain⟨hD,hf,hN⟩:=hst;simp only at hD hf hN;have hpre:=fun {L R:List (List Tk)} (h:L++R=dB ns ⟨sn,sx,sy,sg⟩)=>aKx (s:=s) (k:=k) (F:=dB ns ⟨sn,sx,sy,sg⟩) ht hk h
 obtain⟨hd,hhd⟩:=gn ([wT FH,wT sn,wT KW,fT sx sy]);have hF:dB ns ⟨sn,sx,sy,sg⟩=hd::sg.flatMap (iB ns):=by rw[<-hhd];rfl
 simp only[E5,RX,gA]at hpost ⊢;obtain⟨O,hO⟩:=gn (PD.agg [.str on,.slice (sz 6 rs) (rs.map Em.bO.aA) .any,.slice (sz 5 od) (od.map Em.div.aA) .any,.slice (sz 5 oc) (oc.map Em.cF.aA) .any]);obtain⟨S,hS⟩:=gn (PD.agg [.str sn,.int .i64 sx,.int .i64 sy,.slice (sz 3 sg) (sg.map Em.cD.aA) .any]);have w0:hH aC id s k [] (aC++[.box O,.box S]) [(aC.length+1,.box S),(aC.length,.box O)]:=by
  have:=((hH.start hb).box O).box S;exact bn
 have xp:∀args σ,pO E 54 0 (.inl 35) args σ=eU E 0 (.inl 35) args σ:=λ_ _=>aBl xl
 have xi:∀args σ,pO E 54 0 (.inl 40) args σ=eU E 0 (.inl 40) args σ:=λ_ _=>aBl xl
 have gp:=@XH sx sy hf;obtain⟨a1,a2⟩:=hpre (L:=[]++[hd]) (R:=sg.flatMap (iB ns)) (by rw[hF];rfl);obtain⟨σ2,l2,w2⟩:=w0.line hC hd (by rw[<-hhd];simp) (by rw[<-hhd];simp) a1 hk0 a2 .full;rw[<-hhd]at l2;simp only[yB,yBP,IC,XG,MO]at l2;have x2:=aBp (fl:=0) hgL l2;rw[<-hO,<-hS]at x2;have w0':=w0;rw[<-hO,<-hS]at w0';obtain⟨y1,y2,y3,y4,y5,y6⟩:=aB (w0'.ks (aC.length+1,_) (by simp;rfl)).1;simp only[yAi,yAR,yAQ]at y3 y4 y5 y6;refine cH.aU 56 h0 func46 (h:=?_);have hV:True->aF E:=λ_=>hU
 clear hU;refine aD trivial ?_;refine WL.L0 54 (hV trivial) xo ?_;refine bF (A11 x2 xp xi h1 gp y1 y2 y3 y4 y5 y6) ?_;apply SQ.nil;clear x2 gp y1 y2 y3 y4 y5 y6;have XO:=w2;rw[<-hO,<-hS]at XO;obtain⟨y1,y2,y3,y4,y5,y6⟩:=aB (XO.ks (aC.length+1,_) (by simp;rfl)).1;refine aD (A6 y1 y2 y3 y4 y5 y6) ?_;obtain⟨SS,hSS⟩:=gn (PD.slice (sz 3 sg) (sg.map Em.cD.aA) .any);obtain⟨bo,hbo⟩:=gn (aC.length);rw[hbo]at w2;refine Wp.eV (λm fr σ=>∃(i:Nat) (σ1:List U),∃gg:Nat->PD,(i+m=sg.length/\hH aC id s k (hd::(sg.take i).flatMap (iB ns)) σ1 [(bo+1,.box S),(bo,.box O)])/\fr=[.ptr id 0,gg 1,gg 2,gg 3,.ptr bo 0,.ptr (bo+1) 0,gg 6,gg 7,gg 8,gg 9,gg 10,gg 11,gg 12,gg 13,gg 14,gg 15,gg 16,gg 17,gg 18,.slice (sz 3 sg) (sg.map Em.cD.aA) .any,.int .i64 sg.length,.int .i64 i,gg 22,gg 23,gg 24,gg 25,gg 26,gg 27,gg 28,gg 29,gg 30,gg 31,gg 32,gg 33,gg 34,gg 35,gg 36,gg 37,gg 38,gg 39,gg 40,gg 41,gg 42,gg 43,gg 44,gg 45,gg 46,gg 47,gg 48,gg 49,gg 50,gg 51,gg 52,gg 53,gg 54,gg 55]/\σ=σ1) ?_ (sg.length) (by refine⟨0,σ2,?_⟩;exact jV (⟨xb,by simpa using w2⟩) @hbo)
 rintro m fr σ ⟨i,σ1,gg,hI,rfl,rfl⟩
 obtain⟨hm,hw⟩:=hI
 by_cases hi:i<sg.length
 .have q1:(i:Int)<(sg.length:Int):=by omega
  obtain⟨g,hg⟩:=gn (sg[i]);have hgm:g∈sg:=hg▸yAm hi
  have hsp:=aE3 hi (iB ns);have htk:=KT hi;rw[hg]at hsp htk;obtain⟨g1,g2,gd⟩:=g;obtain⟨n1,n2,n3⟩:=hN _ hgm;simp only at n1 n2 n3;have hDg:=hD _ hgm;simp only at hDg;obtain⟨G,hG⟩:=gn (PD.agg [.int .i64 g1,.int .i64 g2,.slice (sz 2 gd) (gd.map Em.draw.aA) .any]);obtain⟨bg,hbg⟩:=gn (σ.length);have w3:=hw.box G;rw[hbg]at w3;obtain⟨P,hP⟩:=gn (hd::(sg.take i).flatMap (iB ns));rw[hP]at w3;have wi:=KU (i:=i) (by
   have h1:=aBo (f:=iB ns) (λa=>by simp[iB]) (sg.take i);have h2:=O0 (hd::(sg.take i).flatMap (iB ns));have h3:=(hpre (L:=P) (R:=iB ns ⟨g1,g2,gd⟩++(sg.drop (i+1)).flatMap (iB ns)) (by rw[hF,hsp,<-hP];rfl)).2;rw[<-hP]at h3;rw[yAt]at h1;rw[yAK]at h2;omega)
  obtain⟨hl,hhl⟩:=gn ([wT rM,nT g1,nT g2]);have KX:dB ns ⟨sn,sx,sy,sg⟩=P++(hl::gd.map (kT ns)++(sg.drop (i+1)).flatMap (iB ns)):=by rw[hF,hsp,<-hP,<-hhl];simp[iB]
  obtain⟨b1,b2⟩:=hpre (L:=P++[hl]) (R:=gd.map (kT ns)++(sg.drop (i+1)).flatMap (iB ns)) (by rw[KX];simp);obtain⟨fI,l4,w4⟩:=w3.line hC hl (by rw[<-hhl];simp) (by rw[<-hhl];simp) b1 hk0 b2 .full;rw[<-hhl,<-hG]at l4;simp only[yB,yBP,IC,XG,MO]at l4;have x4:=aBp (fl:=0) hgL l4;have i1:=MM n1;have i2:=MM n2;obtain⟨u1,v1,r1⟩:=bH σ;have w3':=w3;rw[<-hG]at w3';obtain⟨y1,y2,y3,y4,y5,y6⟩:=aB (w3'.ks _ (yBa ..)).1;refine aD (A7 q1 hi hg hbg u1 @v1 r1) ?_;refine WL.L0 54 (hV trivial) xo ?_;refine bF (A12 hbg x4 xi h2 @i1 @i2 y1 y2 y3 y4 y5 y6) ?_;apply SQ.nil;clear x4 y1 y2 y3 y4 y5 y6;have w4':=w4;rw[<-hG]at w4';obtain⟨y1,y2,y3,y4,y5,y6⟩:=aB (w4'.ks _ (yBa ..)).1;refine aD (A7 hbg y1 y2 y3 y4 y5 y6) ?_;obtain⟨M,hM⟩:∃M,M=m:=⟨_,rfl⟩;rw[<-hM]at hm ⊢;refine Wp.eV (λm fr σ=>∃(j:Nat) (σ1:List U),∃gg:Nat->PD,(j+m=gd.length/\hH aC id s k (P++hl::(gd.take j).map (kT ns)) σ1 [(bg,.box G),(bo+1,.box S),(bo,.box O)])/\fr=[.ptr id 0,gg 1,gg 2,gg 3,.ptr bo 0,.ptr (bo+1) 0,gg 6,.ptr bg 0,gg 8,gg 9,gg 10,gg 11,gg 12,gg 13,gg 14,gg 15,gg 16,gg 17,gg 18,.slice (sz 3 sg) (sg.map Em.cD.aA) .any,.int .i64 sg.length,.int .i64 i,gg 22,gg 23,gg 24,gg 25,gg 26,gg 27,gg 28,gg 29,gg 30,gg 31,gg 32,gg 33,gg 34,.slice (sz 2 gd) (gd.map Em.draw.aA) .any,.int .i64 gd.length,.int .i64 j,gg 38,gg 39,gg 40,gg 41,gg 42,gg 43,gg 44,gg 45,gg 46,gg 47,gg 48,gg 49,gg 50,gg 51,gg 52,gg 53,gg 54,gg 55]/\σ=σ1) ?_ (gd.length) (by refine⟨0,fI,?_⟩;exact jV (⟨xb,by simpa using w4⟩) @hbg)
  rintro m fr σ ⟨j,σ1,gg,hI,rfl,rfl⟩
  obtain⟨hm2,hv⟩:=hI
  by_cases hj:j<gd.length
  .have q2:(j:Int)<(gd.length:Int):=by omega
   obtain⟨d,hdd⟩:=gn (gd[j]);have hdm:d∈gd:=hdd▸yAm hj
   have KY:=aE1 hj (kT ns);have FG:=KT hj;rw[hdd]at KY FG;obtain⟨d1,d2⟩:=d;have n4:=n3 _ hdm;obtain⟨e1,e2⟩:=hDg _ hdm;simp only at n4 e1 e2;obtain⟨r,rfl⟩:∃r:Nat,d1=r:=⟨d1.toNat,xb⟩;have hr:r<rs.length:=xb;have hr2:(r:Int)<(rs.length:Int):=xb;obtain⟨R,hR⟩:=gn (rs[r]);have hnm:ns.getD ((r:Int)).toNat []=R.name:=by
    rw[<-hns];simp[wA,hr,hR]
   obtain⟨R1,R2,R3,R4,R5,R6⟩:=R;simp only at hnm;obtain⟨bd,hbd⟩:=gn (σ.length);have w5:=hv.box (.agg [.int .i64 r,.int .i64 d2]);rw[hbd]at w5;obtain⟨b3,b4⟩:=hpre (L:=(P++hl::(gd.take j).map (kT ns))++[kT ns ⟨r,d2⟩]) (R:=(gd.drop (j+1)).map (kT ns)++(sg.drop (i+1)).flatMap (iB ns)) (by rw[KX,KY];simp);obtain⟨O1,l6,w6⟩:=w5.line hC (kT ns ⟨r,d2⟩) (by simp[kT]) (by simp[kT]) b3 hk0 b4 .full;simp only[kT,hnm,yB,yBP,IC,XG,MO]at l6;have x6:=aBp (fl:=0) hgL l6;have i3:=MM n4;obtain⟨u1,v1,r1⟩:=bH σ;obtain⟨y1,y2,y3,y4,y5,y6⟩:=aB (w5.ks _ (yBa ..)).1;have w5':=w5;rw[<-hO]at w5';obtain⟨z1,z2,z3,z4,z5,z6⟩:=aB (w5'.ks (bo,_) xm).1;refine aD (A7 q2 hj hdd hbd u1 @v1 r1) ?_;refine WL.aU7 54 (hV trivial) xo ?_;refine jJ (A20 hbd x6 xi h2 @i3 hr hr2 hR y1 y2 y3 y4 y5 y6 z1 @z2 @z3 @z4 @z5 z6) ?_;apply SQ.nil;have wj:=KU (i:=j) (by
    have:=O0 ((P++hl::(gd.take j).map (kT ns))++[kT ns ⟨r,d2⟩]);simp only[yAa,yAK,yAe,yAt,yAL]at this b4;omega)
   refine aD wj ?_;have w7:=w6.sub (K':=[(bg,.box G),(bo+1,.box S),(bo,.box O)]) yq;refine aM.normal (m-1) xb (by refine⟨j+1,O1,?_⟩;exact jV (⟨xb,by rw[FG,yAH];simpa using w7⟩) @wj)
  .have q2:¬(j:Int)<(gd.length:Int):=by omega
   obtain rfl:j=gd.length:=xb;refine aD (A2 q2 wi) ?_;rw[yBz]at hv;have w8:=hv.sub (K':=[(bo+1,.box S),(bo,.box O)]) yq;refine aM.normal (M-1) xb (by refine⟨i+1,σ,?_⟩;exact jV (⟨xb,by rw[htk,yCv,yBg,yDd,yAl,<-yAR,hP,show iB ns ⟨g1,g2,gd⟩=hl::gd.map (kT ns) by rw[<-hhl];rfl];exact w8⟩) @wi)
 .have q1:¬(i:Int)<(sg.length:Int):=by omega
  obtain rfl:i=sg.length:=xb;rw[yBz,<-hF]at hw;refine aD q1 ?_;exact⟨_,_,rfl,hpost _ hw.bw λj o hj ho=>hw.kp j o hj ho⟩
omit hU in
theorem XA.of{E0:aE}(hU:aF E0)(h0:E0 46=none)(hL:OT E0)(h1:E0 35=some H7)(h2:E0 40=some H6)
  (h:E.ret 46=some (mN prog E0 46 W9)):XA E:=by
 refine⟨_,h,aKz,λσ id o st s k hb hst ht hk0 hk=>?_⟩;obtain⟨p,σ',e,_,rfl,id',o',st',s',k',ea,b,b',kk⟩:=aE4 (aU6 hU h0 hL h1 h2 o st hb hst ht hk0 hk);simp only[yBs,PD.ptr.injEq,yAW]at ea;obtain⟨rfl,ho,hs⟩:=ea;obtain rfl:=Em.fC.inj ho;obtain rfl:=Em.stop.inj hs;obtain⟨rfl,rfl⟩:=hb.uniq b;exact⟨σ',e,b',kk⟩
end
section
def XP(σ:List U)(tok:Tok)(n:Nat):Prop:=tok=.full\/(0<n/\∃id,tok=.own id/\σ[id]?=some (.own 9 1 n))
def aBq(σ σ':List U):Prop:=∀(j:Nat) (o:U),(∀n,o≠.own 9 1 n)->σ[j]?=some o->σ'[j]?=some o
theorem aBq.bw{σ σ':Bv}{id:Nat}{s:Bx}{k:Int}(h:aBq σ σ')(hb:eC σ id s k):eC σ' id s k:=by
 obtain⟨p,z,tok,h1,h2,h3⟩:=hb.ex;exact⟨p,z,tok,h _ _ (λn e=>xx) h1,h2,h3.imp (λh=>h) λ⟨a1,a2,gC,a3,a4⟩=>⟨a1,a2,gC,a3,h _ _ (λn e=>xx) a4⟩⟩
theorem hH.app{aR σ σ':Bv}{id:Nat}{s0:Bx}{k0:Int}{L:List (List Tk)}{K:List (Nat×U)}(h:hH aR id s0 k0 L σ K)(hk:aBq σ σ'):hH aR id s0 k0 L σ' K:=
 ⟨hk.bw h.bw,λj o hj e=>hk _ _ (λn e=>xx) (h.kp j o hj e),λp hp=>by
  obtain⟨a1,a2,o,a3⟩:=h.ks p hp;rw[a3]at a1 ⊢;exact⟨hk _ _ (λn e=>xx) a1,a2,o,rfl⟩⟩
theorem aBn{σ:Bv}{tok tk:Tok}(xs ys:List PD)(hx:xs≠[])(hy:ys≠[])(h:XP σ tok xs.length)(hm:xs.length+ys.length<=100000000) :
  ∃bY σ',dV prog 0 σ 55 (.slice 1 xs tok) (.slice 1 ys tk)=some (.slice 1 (xs++ys) bY,σ')/\XP σ' bY (xs++ys).length/\aBq σ σ':=by
 have hu:prog.underlying 55=some (.slice 9):=underlying55;obtain⟨i,hi,hi1,hi2,z',IE,hi4⟩:∃i,prog.info? 9=some i/\i.size=1/\i.bytes=16/\∃z,i.zero=some z/\z.cells.size=1:=by
  have h:J0 prog 9=some (1,16):=xg;unfold J0 at h;split at h
  .rename_i i h1;split at h
   .rename_i z h2;split at h
    .rename_i h3;simp only[yAb,yAc]at h;exact⟨i,h1,h.1,h.2,z,h2,by rw[<-h.1];exact h3.1⟩
    .cases h
   .cases h
  .cases h
 have hx0:0<xs.length:=yBu.2 hx;have hy0:¬ys.length=0:=λe=>hy (yAf e)
 have hmm:xs.length+ys.length<=maxLen:=zx;have hbb:(xs.length+ys.length)*16<=140737488355328:=xb;rcases h with rfl | ⟨h0,id,rfl,h1⟩
 .refine⟨.own σ.length,σ++[.own 9 1 (xs.length+ys.length)],?_,.inr ⟨yo,σ.length,rfl,by rw[yAa];simp⟩,λj o _ hj=>by rw[yAg (yA.1 hj).1];exact hj⟩;simp only[dV,hu,hi,hi1,hi2,IE,hi4];rw[yAJ ⟨.inr trivial,.inr trivial,xb,trivial,hmm,hbb⟩,yAI hy0]
 .have hl:=(yA.1 h1).1;refine⟨.own id,σ.set id (.own 9 1 (xs.length+ys.length)),?_,.inr ⟨yo,id,rfl,by rw[yAj hl,yAa]⟩,λj o ho hj=>?_⟩
  .simp only[dV,hu,hi,hi1,hi2,IE,hi4];rw[yAJ ⟨.inr trivial,.inr trivial,xb,trivial,hmm,hbb⟩,yAI hy0,yAJ ⟨yAF _,trivial⟩,h1];simp
  .rw[yAd (λe=>by rw[<-e,h1]at hj;exact ho _ (yBr hj).symm)];exact hj
def KN:Nat->List PD->List U->Option (PD×List U):=λ_ args σ=>match args with
 | [.ptr id 0]=>match σ[id]? with
   |some (.box (.typed 125 [_,.slice _ xs _,_]))=>some (.int .i64 xs.length,σ)
   |_=>none
 |_=>none
theorem eC.len{σ:Bv}{id:Nat}{s:Bx}{k:Int}(h:eC σ id s k)(fl:Nat):KN fl [.ptr id 0] σ=some (.int .i64 s.length,σ):=by
 obtain⟨p,z,tok,hb,_⟩:=h.ex;simp[KN,hb]
variable{E:aE}(hU:aF E)
include hU
set_option maxRecDepth 10000
theorem aU5(h0:E 55=none)(fl:Nat)(args:List PD)(σ:List U)(p:PD)(σ':List U)(h:KN fl args σ=some (p,σ')):lM prog E fl (.inl 55) args σ p σ':=by
 unfold KN at h;split at h
 .rename_i id;split at h
  .rename_i a b xs tok n hb;simp only[yAb,yAc]at h;obtain⟨rfl,rfl⟩:=h;obtain⟨y1,y2,y3,y4,y5,y6⟩:=aB hb;obtain⟨p1,σ1,h3,h4,h5⟩:∃p1 σ1,lM prog E fl (.inl 55) [.ptr id 0] σ p1 σ1/\p1=.int .i64 xs.length/\σ1=σ:=by
    suffices hh:cH prog E fl (.inl 55) [.ptr id 0] σ (λp1 σ1=>p1=.int .i64 xs.length/\σ1=σ)from hh.ex
    refine cH.aU 8 h0 func55 (h:=?_);refine aD (A6 y1 y2 y3 y4 y5 y6) ?_;exact aa
   rw[<-h4,<-h5];rw[h5];rw[h5]at h3;exact h3
  .cases h
 .cases h
omit hU in
theorem aSF(hE:aH prog E)(hU:aF E)(h0:E 55=none):aH prog (E.add 55 KN):=
 hE.add xg λfl args σ p σ' h=>aU5 hU h0 fl args σ p σ' h
end
end Go.Kz
end
