/- Steps of the proof. -/
import Derived.Test.YtnogdlnjafblaaaGreatDoorH9
import Derived.Test.YtnogdlnjafblaaaGreatDoorH8
import Derived.Test.YtnogdlnjafblaaaGreatDoorI6
import Derived.Test.YtnogdlnjafblaaaGreatDoorH6
import Derived.Test.YtnogdlnjafblaaaGreatDoorH3
set_option linter.all false
set_option maxHeartbeats 40000000
set_option maxRecDepth 100000
open Go.Proofs.Tryz
noncomputable section
namespace Go.Kz
open Go Go.Proofs
section
def aAa:Nat->List PD->List U->Option (PD×List U):=entry (aY .text (dA.MW .pos i64) λs=>bE ((s.length:Int)<4000000000) (some (nE s)))
theorem aZB{s:Dr}(h:(s.length:Int)<4000000000){l:List Tk}{p1 p2 e:Int}(hS:nE s=(l,(p1,p2),e))(fl:Nat)(σ:List U):aAa fl [.str s] σ=some (.aI [dA.aA l,.agg [.int .i64 p1,.int .i64 p2],.int .i64 e],σ):=by
 have e1:Em.text.dec (.str s)=some s:=Em.cJ rfl;unfold aAa entry aY;exact qf
def VJ:Nat->List PD->List U->Option (PD×List U):=entry (aY Em.fE i64 λo=>bE (vS o) (some (gZ o)))
theorem aG7{o:eK}(h:vS o)(fl:Nat)(σ:List U):VJ fl [Em.fE.aA o] σ=some (.int .i64 (gZ o),σ):=by
 have e1:=Em.cJ (Em.fE.str o);unfold VJ entry aY;exact iu
def RdO(E:aE):Prop:=∃g,E.ret 41=some g/\∀σ l,l.length<=100000->∃p σ',g 0 [dA.aA l] σ=some (p,σ')/\Z6 (jX l 0) Em.fE.aA 4 σ p σ'
theorem aZC{σ:Dp}{a b:U}(h0:σ[0]?=some a)(h1:σ[1]?=some b):∃J,σ=a::b::J:=by
 match σ,h0,h1 with
 | [],h0,_=>cases h0
 | [x],_,h1=>cases h1
 |x::y::J,h0,h1=>
  simp only[yBD,yBT,yAb]at h0 h1;exact⟨J,by rw[h0,h1]⟩
theorem aZD{cs:Dq}(h:cs.length=4)(hp:cs.all PD.plain=true):∃a b c d,cs=[a,b,c,d]/\a.plain=true/\b.plain=true/\c.plain=true/\d.plain=true:=by
 match cs,h with
 | [a,b,c,d],_=>
   simp only[yBK,yAr]at hp;exact⟨a,b,c,d,rfl,hp.1,hp.2.1,hp.2.2.1,hp.2.2.2.1⟩
variable{E:aE}(hU:aG E)
include hU
set_option maxRecDepth 10000
theorem aYs(h0:E 16=none)(h1:E 14=some aAa)(h2:RdO E)(h3:E 25=some VJ)(s:List UInt8)(hl:(s.length:Int)<4000000000):aJ prog E 16 [.str s] ((Em.fE.MW .pos i64).aA (yL s)):=by
 obtain⟨gR,hgR,hR⟩:=h2;obtain⟨l,p1,p2,e,hS⟩:∃l p1 p2 e,nE s=(l,(p1,p2),e):=⟨_,_,_,_,rfl⟩;have hb:=aZE s;have ht:=aZF s;rw[hS]at hb ht;simp only at hb ht;have hsc:=aZB hl hS;obtain⟨q,σ',hr,hk,hlen,hq⟩:=hR [.box (.agg [.str [],.slice 0 [] .full,.slice 0 [] .full,.slice 0 [] .full]),.box (.agg [.int .i64 p1,.int .i64 p2])] l hb.2
 replace hlen:=yDe hlen
 obtain⟨J,rfl⟩:=aZC (hk 0 _ rfl) (hk 1 _ rfl);obtain⟨T,hT⟩:=gn (dA.aA l);rw[hT]at hsc hr;refine aJ.aV 38 h0 func16 (h:=?_)
 by_cases he:e=0
 .subst he;rcases hq with⟨o,n,hO,rfl⟩ | ⟨f,cs,hE,rfl,hc,hp⟩
  .have hok:=bZ.fE l 0 o n hb (yAF _) hO;have hg:=aG7 hok;obtain⟨on,rs,od,oc⟩:=o;have hP:yL s=if gZ ⟨on,rs,od,oc⟩≠0 then(HN,(0,0),gZ ⟨on,rs,od,oc⟩)else(⟨on,rs,od,oc⟩,(0,0),0):=by simp[yL,hS,aDd,hO]
   simp only[yG,eN]at hg hr
   by_cases hc:gZ ⟨on,rs,od,oc⟩=0
   .rw[hc]at hg;rw[hc,yAI yo]at hP;rw[hP];refine aD (A6 h1 hsc hgR hr h3 hg) ?_;exact aa
   .rw[yAJ hc]at hP;rw[hP];refine aD (A7 h1 hsc hgR hr h3 hg hc) ?_;simp(disch:=first|omega|(simp;done)|(simp;omega)) [yAu,HN,sz]<;>try rfl
  .obtain⟨a,b,c,d,rfl,q1,q2,q3,q4⟩:=aZD hc hp;obtain⟨f1,f2,f3⟩:=f;have hne:f3≠0:=(dR.fE.er l 0 _ ht (yAF _) hE).2.2;have hP:yL s=(HN,(f1,f2),f3):=by simp[yL,hS,aDd,hE]
   rw[hP];unfold PD.plain at q1 q2 q3 q4;refine aD (A9 h1 hsc hgR hr hne q1 q2 q3 q4) ?_;refine Wp.aCj hU [(2,0),(3,1)] [(some 1,some 0)] zb ⟨⟨0,rfl⟩,⟨0,rfl⟩,trivial⟩ yp ⟨ym,trivial⟩ ?_;refine j9 (A4 q1 q2 q3 q4) ?_;exact mc
 .have hP:yL s=(HN,(p1,p2),e):=by simp[yL,hS,he]
  rw[hP];refine aD (A3 h1 hsc @he) ?_;refine Wp.aCj hU [(2,0),(3,1)] [(some 1,some 0)] zb ⟨⟨0,rfl⟩,⟨0,rfl⟩,trivial⟩ yp ⟨ym,trivial⟩ ?_;refine bM @he ?_;exact mc
end
section
def aCZ(x:KG):Prop:=(0<=x.1/\x.1<=1000000)/\0<x.2/\x.2<=1000000
def yO(x:KG):List UInt8:=iI x.1.toNat x.2.toNat++[39]
def KL:Nat->List PD->List U->Option (PD×List U):=entry (aY Em.pU .text λx=>bE (aCZ x) (some (yO x)))
theorem aAv{x y:Int}(h:aCZ (x,y))(fl:Nat)(σ:List U):KL fl [.agg [.int .i64 x,.int .i64 y]] σ=some (.str (yO (x,y)),σ):=by
 have e1:Em.pU.dec (.agg [.int .i64 x,.int .i64 y])=some (x,y):=Em.cJ (Em.pU.str (x,y));unfold KL entry aY;exact iu
variable{E:aE}(hU:aG E)
include hU
set_option maxRecDepth 10000
theorem aYf(h0:E 35=none)(h1:E 40=some KK)(a b:Nat)(hb:0<b)(ha6:a<=1000000)(hb6:b<=1000000):aJ prog E 35 [.agg [.int .i64 a,.int .i64 b]] (.str (iI a b++[39])):=by
 have q1:((a:Int).tdiv (b:Int))=((a/b:Nat):Int):=by rw[yDY ym];rfl
 have q2:((a:Int).tmod (b:Int))=((a%b:Nat):Int):=by rw[yCT ym];rfl
 have q3:(b:Int)≠0:=ym;have hq:a/b<=1000000:=yBe (yCU _ _) ha6;have hr:a%b<=1000000:=yBe (Nat.mod_le _ _) ha6;obtain⟨n,hn⟩:=gn (a/b);obtain⟨r,hr'⟩:∃n,a%b=n:=⟨_,rfl⟩;rw[hn]at q1 hq;rw[hr']at q2 hr;have l1:=HM n;have l2:=HM r;have l3:=HM b;have i1:=NG (n:Int) ⟨ym,ym⟩;have i2:=NG (r:Int) ⟨ym,ym⟩;have i3:=NG (b:Int) ⟨ym,ym⟩;have l0:(Lib.itoa 0).length<=1:=HM 0;have i0:=NG 0 ⟨yx,yx⟩;unfold iI;rw[hn,hr'];refine aJ.aV 40 h0 func35 (h:=?_);exact az
theorem aYx(h0:E 15=none)(h1:E 40=some KK)(a b:Nat)(hb:0<b)(ha6:a<=1000000)(hb6:b<=1000000):aJ prog E 15 [.agg [.int .i64 a,.int .i64 b]] (.str (iI a b++[39])):=by
 have q1:((a:Int).tdiv (b:Int))=((a/b:Nat):Int):=by rw[yDY ym];rfl
 have q2:((a:Int).tmod (b:Int))=((a%b:Nat):Int):=by rw[yCT ym];rfl
 have q3:(b:Int)≠0:=ym;have hq:a/b<=1000000:=yBe (yCU _ _) ha6;have hr:a%b<=1000000:=yBe (Nat.mod_le _ _) ha6;obtain⟨n,hn⟩:=gn (a/b);obtain⟨r,hr'⟩:∃n,a%b=n:=⟨_,rfl⟩;rw[hn]at q1 hq;rw[hr']at q2 hr;have l1:=HM n;have l2:=HM r;have l3:=HM b;have i1:=NG (n:Int) ⟨ym,ym⟩;have i2:=NG (r:Int) ⟨ym,ym⟩;have i3:=NG (b:Int) ⟨ym,ym⟩;have l0:(Lib.itoa 0).length<=1:=HM 0;have i0:=NG 0 ⟨yx,yx⟩;unfold iI;rw[hn,hr'];refine aJ.aV 44 h0 func15 (h:=?_);exact az
def aAr(x:KG):Dr×Int:=if oE x.1 x.2≠0 then([],oE x.1 x.2)else if x.1<0 then([],3)else(yO x,0)
theorem aYh(h0:E 12=none)(h1:E 13=some Z7)(h2:E 35=some KL)(x y:Int):aJ prog E 12 [.agg [.int .i64 x,.int .i64 y]] ((Em.text.iH i64).aA (aAr (x,y))):=by
 have g1:=aNu x y;unfold aAr;refine aJ.aV 15 h0 func12 (h:=?_)
 by_cases c1:oE x y=0
 .rw[yAI (by simpa using c1)];rw[c1]at g1;obtain⟨k1,k2,k3,k4,k5⟩:=aC1 c1
  by_cases c2:x<0
  .rw[yAJ c2];refine aD (A3 h1 @g1 c2) ?_;exact aa
  .rw[yAI c2];have g2:=@aAv x y ⟨⟨zi,k4⟩,k1,k2⟩;refine aD (A5 h1 @g1 c2 h2 @g2) ?_;exact aa
 .rw[yAJ c1];refine aD (A3 h1 @g1 c1) ?_;exact aa
end
end Go.Kz
namespace Go.Kz
section
def rD(E:aE)(f0:FuncId):b9:=λfl tg args σ=>match tg with
 |.inl f=>if f=f0 then cW E fl (.inl f) args σ else fK E fl (.inl f) args σ
 |.inr _=>none
def aBx(f0:FuncId):Op->Bool
 |.call { callee:=.value (.func f),.. }=>f==f0
 |.call { callee:=.value _,.. }=>true
 |_=>false
def aEf(f0:FuncId)(ops:Array Oper):Bool:=vC ops.toList [] λms=>
 (List.range ops.size).all λi=>!eL (aBx f0) ops.toList i||gH ops.toList ms i
section
variable{P:Program}{E:aE}{fl:Nat}{fr:Dq}{σ:Dp}{f0:FuncId}
theorem a4y(hU:aG E){tg:FuncId ⊕ Nat}{args:Dq}{x:PD×Dp}(h:rD E f0 fl tg args σ=some x):cW E fl tg args σ=some x:=by
 cases tg with
 |inr id=>cases h
 |inl f=>
  simp only[rD]at h;split at h
  .exact h
  .exact aJy hU h
theorem a4z(hU:aG E){op:Op}{x:PD×Dp}(h:bK P (rD E f0) fl fr σ op=some x):bK P (cW E) fl fr σ op=some x:=by
 unfold bK at *;cases hc:dO fr op with
 |some q=>
  obtain⟨tg,args⟩:=q;simp only[hc]at h ⊢;exact a4y hU h
 |none=>
  simp only[hc]at h ⊢;exact h
theorem a4A{op:Op}{x:PD×Dp}(hx:aBx f0 op=false)(h:bK P (rD E f0) fl fr σ op=some x):bK P (fK E) fl fr σ op=some x:=by
 unfold bK at *;cases hc:dO fr op with
 |none=>
  simp only[hc]at h ⊢;exact h
 |some q=>
  obtain⟨tg,args⟩:=q;simp only[hc]at h ⊢;cases tg with
  |inr id=>cases h
  |inl f=>
   simp only[rD]at h;split at h
   .rename_i hf;subst hf
    exfalso
    cases op with
    |call c=>
     obtain⟨cal,args',ts⟩:=c;cases cal with
     |value v=>
      cases v with
      |func g=>
       simp only[aBx,beq_eq_false_iff_ne]at hx;simp only[dO,aT]at hc;split at hc
       .rename_i h1 _;simp only[yAb,PD.func.injEq]at h1;simp only[yAb,yAc,yCy]at hc;exact hx (h1.1.trans hc.1)
       all_goals first|(cases hc;done)|simp_all
      |_=>simp[aBx]at hx
     |builtin b=>simp[dO]at hc
     |invoke _ _=>simp[dO]at hc
    |_=>simp[dO]at hc
   .exact h
theorem aBy(hU:aG E){ops:Du}:∀(l:List Oper) (i:Nat) (fr:List PD) (σ:List U) (x:Dq×List U),ops.toList.drop i=l->OK ops=true->aEf f0 ops=true ->
  dS P (rD E f0) fl ops l fr σ=some x->nM P (cW E) fl ops (flags ops i l) fr σ=some x
 | [],_,_,_,_,_,_,_,h=>h
 |o::l,i,fr,σ,x,hd,hm,ht,h=>by
  have ho:ops.toList[i]?=some o:=by
   exact vp
  have hd':ops.toList.drop (i+1)=l:=Cv;have hi:i<ops.size:=by
   have:=(yA.1 ho).1;exact bp
  have hown:YL o.op=false\/EN ops i=true:=by
   have hm':=hm;rw[OK,o4]at hm';exact gv
  have hcx:aBx f0 o.op=false\/EN ops i=true:=by
   have hm':=ht;rw[aEf,o4]at hm';exact gv
  simp only[dS]at h;simp only[flags,nM];split at h
  .rename_i hw;rw[yAJ hw];split at h
   .rename_i p σ1 hp;cases hf:(!cR o.op||EN ops i)with
    |true=>
     simp only[a4z hU hp];exact qy
    |false=>
     simp only[yDL,Bool.not_eq_false']at hf;obtain⟨eY,qQ⟩:=hf;rw[qQ]at hown hcx;have hop:YL o.op=false:=by simpa using hown
     have hp:=a4A (by simpa using hcx) hp;obtain⟨e1,e2⟩:=QP (P:=P) hU (cE:=max fl σ.length) (op:=o.op) (by
      cases hq:o.op with
      |box t x=>rw[hq]at hop;cases hop
      |call c=>
       exact jb
      |_=>rfl) eY hp
     simp only at e2;subst e2;simp only[e1,yCe,yAl];exact qy
   .cases h
  .rename_i hw;rw[yAI hw];exact qy
theorem WL.aZs(f0:FuncId){rd:Option Nat}{ms:List Nat}{Q:PO->Prop}{ops:Du}{id:Nat}(hU:aG E)(hs:(sV ops&&OK ops&&aEf f0 ops)=true)(h:SQ P (rD E f0) fl ops ops.toList fr σ (λfr' σ'=>Q ⟨.normal,fr',ms,σ'⟩)) :
  Wp P E rd (.region id ops true) fl fr ms σ Q:=by
 simp only[yAr,T4]at hs;obtain⟨fr',σ',h1,h2⟩:=h.ex;exact .draw hs.1.1 (aBy hU _ 0 _ _ _ yo hs.1.2 hs.2 h1) h2
theorem WL.OX(f0:FuncId){rd:Option Nat}{ms:List Nat}{Q:PO->Prop}{ops:Du}{id:Nat}{y:Code}(hU:aG E)(hs:(sV ops&&OK ops&&aEf f0 ops)=true)(h:SQ P (rD E f0) fl ops ops.toList fr σ (λfr' σ'=>Wp P E rd y fl fr' ms σ' Q)) :
  Wp P E rd (.seq (.region id ops true) y) fl fr ms σ Q:=by
 simp only[yAr,T4]at hs;obtain⟨fr',σ',h1,h2⟩:=h.ex;exact .seq (.draw hs.1.1 (aBy hU _ 0 _ _ _ yo hs.1.2 hs.2 h1) (.normal h2))
theorem aDb{g:Dj}{args:Dq}{p:PD}{σ':Dp}(h:E.ret f0=some g)(hg:g fl args σ=some (p,σ')):rD E f0 fl (.inl f0) args σ=some (p,σ'):=by
 simp only[rD,yAM,cW,h,hg]
theorem aC6{f:FuncId}{args:Dq}(h:f≠f0):rD E f0 fl (.inl f) args σ=fK E fl (.inl f) args σ:=by
 simp only[rD,yAI h]
end
end
end Go.Kz
namespace Go.Kz
open Go Go.Proofs
section
def WA(ws:List (List UInt8)):List UInt8:=Lib.join ws [32]++[10]
def R9(id:Nat)(σ σ':List U):Prop:=∀(j:Nat) (o:PD),j≠id->σ[j]?=some (U.box o)->σ'[j]?=some (U.box o)
theorem eQ.uniq{σ:Dp}{id:Nat}{s s':Dr}{k k':Int}(h:eQ σ id s k)(h':eQ σ id s' k'):s=s'/\k=k':=by
 obtain⟨p,z,tok,hb,_⟩:=h.ex;obtain⟨p',z',bP,hb',_⟩:=h'.ex;rw[hb]at hb';simp only[yAb,U.box.injEq,PD.typed.injEq,yBx,PD.slice.injEq,PD.int.injEq,yBM,yAV]at hb';refine⟨?_,hb'.2.2⟩;have h1:J3 (cH s)=some s:=aCf s;rw[hb'.2.1.2.1]at h1;have h2:J3 (cH s')=some s':=aCf s';rw[h2]at h1;exact(yBw h1).symm
theorem eQ.lt{σ:Dp}{id:Nat}{s:Dr}{k:Int}(h:eQ σ id s k):id<σ.length:=by
 obtain⟨p,z,tok,hb,_⟩:=h.ex;exact(yA.1 hb).1
theorem aNs{x:PD}{ws:List (List UInt8)}{s:Dr}(hx:x.strip=texts.aA ws)(h:V3 ws s)(fl:Nat)(σ:List U):HI fl [x,.str s] σ=some (.str (Lib.join ws s),σ):=by
 have e1:=Em.cJ hx;have e2:Em.text.dec (.str s)=some s:=Em.cJ rfl;unfold HI entry cU;simp only[e1,e2,dC h];rfl
def LnQ(args:List PD)(σ:List U)(p:PD)(σ':List U):Prop:=σ≠[]/\p=.aI []/\∃id tok ws s k,args=[.ptr id 0,.slice 1 (ws.map PD.str) tok]/\eQ σ id s k/\eQ σ' id (s++WA ws) (k+ws.length+1)/\R9 id σ σ'
def RZ(E:aE):Prop:=∃g,E.ret 54=some g/\(∀fl args σ,0<fl->g fl args σ=none)/\∀σ id tok ws s k,eQ σ id s k->V3 ws [32]->s.length<=10000000000->0<=k->k<=1000000000 ->
 ∃σ',g 0 [.ptr id 0,.slice 1 (ws.map PD.str) tok] σ=some (.aI [],σ')/\eQ σ' id (s++WA ws) (k+ws.length+1)/\R9 id σ σ'
variable{E:aE}(hU:aG E)
include hU
set_option maxRecDepth 10000
theorem aZt(h0:E 54=none)(h1:E 45=some HI)(h2:E 103=some KI)(h3:E 112=some KJ)
  {σ:Dp} {id:Nat} {tk:Tok} {ws:List (List UInt8)} {s:Dr} {k:Int} (hb:eQ σ id s k) (hj:V3 ws [32]) (hs:s.length<=10000000000) (hk0:0<=k) (hk:k<=1000000000) :
  cF prog E 0 (.inl 54) [.ptr id 0,.slice 1 (ws.map PD.str) tk] σ (LnQ [.ptr id 0,.slice 1 (ws.map PD.str) tk] σ):=by
 have hx:(PD.slice 1 (ws.map PD.str) tk).strip=texts.aA ws:=by
  rw[PD.lD,show(ws.map PD.str).map PD.strip=ws.map PD.str by rw[yBc];rfl];simp[Em.list,Em.aA,sz,hj.1]
 have hJ:=λfl σ=>aNs (fl:=fl) (σ:=σ) hx hj
 obtain⟨j1,j2,j3⟩:=hj;obtain⟨σ1,g1,b1,k1⟩:=hb.aZu (Lib.join ws [32]) ym;obtain⟨σ2,g2,b2,k2⟩:=b1.aZv 10 10 rfl Ae;obtain⟨p,z,tok,mW,U1,hc2⟩:=b2.ex;have hlt:=b2.lt;have aNt:=hb.lt;have hne:σ≠[]:=λe=>by rw[e]at aNt;exact absurd aNt (yDu _)
 have hL:(ws.length:Int)<=1000:=ym;have hpost:LnQ [.ptr id 0,.slice 1 (ws.map PD.str) tk] σ (.aI []) (σ2.set id (.box (.typed 125 [p,.slice z (cH (s++Lib.join ws [32]++[10])) tok,.int .i64 (k+(ws.length+1))]))):=by
  refine⟨hne,rfl,id,tk,ws,s,k,rfl,hb,⟨p,z,tok,?_,U1,?_⟩,λj o hj ho=>?_⟩
  .rw[yAj hlt,WA,yAi,Int.add_assoc]
  .rw[WA,<-yAi];refine hc2.imp (λh=>h) λ⟨a1,a2,fJ,a3,a4⟩=>⟨a1,a2,fJ,a3,?_⟩
   rw[yAd (λe=>by rw[<-e,mW]at a4;cases a4)];exact a4
  .rw[yAd (yBd hj)];exact k2 j o hj (k1 j o hj ho)
 obtain⟨B,hB⟩:=gn (cH (s++Lib.join ws [32]++[10]));rw[hB]at mW hpost;obtain⟨y1,y2,y3,y4,y5,y6⟩:=aB mW;clear hU;refine cF.aV 24 h0 func54 (h:=?_);refine aD (A12 h1 hJ h2 @g1 h3 @g2 y1 y2 y3 y4 y5 y6) ?_;exact⟨_,_,rfl,hpost⟩
omit hU in
theorem RZ.of{E0:aE}(hU:aG E0)(h0:E0 54=none)(h1:E0 45=some HI)(h2:E0 103=some KI)(h3:E0 112=some KJ)
  (h:E.ret 54=some (oC prog E0 54 LnQ)):RZ E:=by
 refine⟨_,h,aNr,λσ id tok ws s k hb hj hs hk0 hk=>?_⟩;obtain⟨p,σ',e,_,rfl,id',bP,ws',s',k',ea,b,b',kk⟩:=aHb (aZt hU h0 h1 h2 h3 (tk:=tok) hb hj hs hk0 hk);simp only[yBx,PD.ptr.injEq,PD.slice.injEq,yBM,yAV]at ea;obtain⟨rfl,hws,_⟩:=ea;have hw:ws'=ws:=by
  exact((List.map_inj_right (λa b (h:PD.str a=PD.str b)=>zw)).1 hws).symm
 subst hw;obtain⟨rfl,rfl⟩:=hb.uniq b;exact⟨σ',e,b',kk⟩
omit hU in
theorem KR(w:List UInt8):fF (wT w)=w:=rfl
omit hU in
theorem PS(n:Int):fF (nT n)=Lib.itoa n:=rfl
omit hU in
theorem aC7(x y:Int):fF (fT x y)=yO (x,y):=rfl
omit hU in
theorem aHc:∀ {x:List Tk},x≠[]->Lib.join (x.map fF) [32]=lI x
 | [],h=>absurd rfl h
 | [t],_=>by simp[Lib.join,lI,List.intercalate]
 |t::u::r,_=>by
  have ih:=aHc (x:=u::r) yo;rw[lI,yAI yo,<-ih];simp[Lib.join,List.intercalate,List.intersperse]
omit hU in
theorem aC5(a b:List (List Tk)):kR (a++b)=kR a++kR b:=by simp[kR]
structure iU (aQ:List U) (id:Nat) (s0:List UInt8) (k0:Int) (L:List (List Tk)) (σ:List U) (K:List (Nat×U)):Prop where
 bw:eQ σ id (s0++kR L) (k0+(bQ L).length)
 kp:∀(j:Nat) (o:PD),j≠id->aQ[j]?=some (.box o)->σ[j]?=some (.box o)
 ks:∀p∈K,σ[p.1]?=some p.2/\p.1≠id/\∃o,p.2=U.box o
omit hU in
theorem iU.start{σ:Dp}{id:Nat}{s:Dr}{k:Int}(h:eQ σ id s k):iU σ id s k [] σ []:=⟨by simpa [kR,bQ]using h,λ_ _ _ h=>h,λp hp=>by cases hp⟩
omit hU in
theorem iU.box{aQ σ:Dp}{id:Nat}{s0:Dr}{k0:Int}{L:List (List Tk)}{K:List (Nat×U)}(h:iU aQ id s0 k0 L σ K)(o:PD):iU aQ id s0 k0 L (σ++[.box o]) ((σ.length,.box o)::K):=
 ⟨h.bw.more,λj q hj e=>by have:=h.kp j q hj e;rw[yAg (yA.1 this).1];exact this,λp hp=>by
  rcases yAS.1 hp with rfl|hp
  .exact⟨yo,by have:=h.bw.lt;simp only;omega,o,rfl⟩
  .obtain⟨h1,h2⟩:=h.ks p hp;exact⟨Co,h2⟩⟩
omit hU in
theorem iU.sub{aQ σ:Dp}{id:Nat}{s0:Dr}{k0:Int}{L:List (List Tk)}{K K':List (Nat×U)}(h:iU aQ id s0 k0 L σ K)(hs:∀p∈K',p∈K):iU aQ id s0 k0 L σ K':=⟨h.bw,h.kp,λp hp=>h.ks p (hs p hp)⟩
omit hU in
theorem iU.line{aQ σ:Dp}{id:Nat}{s0:Dr}{k0:Int}{L:List (List Tk)}{K:List (Nat×U)}(h:iU aQ id s0 k0 L σ K){g:Dj}
  (hC:∀σ id tok ws s k,eQ σ id s k->V3 ws [32]->s.length<=10000000000->0<=k->k<=1000000000->∃σ',g 0 [.ptr id 0,.slice 1 (ws.map PD.str) tok] σ=some (.aI [],σ')/\eQ σ' id (s++WA ws) (k+ws.length+1)/\R9 id σ σ')
  (x:List Tk) (hx:x≠[]) (hxl:x.length<=1000) (ht:(s0++kR (L++[x])).length<=1000000) (hk0:0<=k0) (hk:k0+(bQ (L++[x])).length<=1000000) (tok:Tok) :
  ∃σ',g 0 [.ptr id 0,.slice 1 ((x.map fF).map PD.str) tok] σ=some (.aI [],σ')/\iU aQ id s0 k0 (L++[x]) σ' K:=by
 have e1:kR (L++[x])=kR L++(lI x++[10]):=by rw[aC5];simp[kR]
 have e2:(bQ (L++[x])).length=(bQ L).length+(x.length+1):=by rw[V4,yAa];simp[bQ]
 rw[e1]at ht;simp only[yAa]at ht;obtain⟨σ',h1,h2,h3⟩:=hC σ id tok (x.map fF) _ _ h.bw ⟨Ac,by rw[yAe];exact hxl,by rw[aHc hx];omega⟩ Ae ym ym;refine⟨σ',h1,⟨?_,λj o hj e=>h3 j o hj (h.kp j o hj e),λp hp=>?_⟩⟩
 .rw[e1,e2];rw[WA,aHc hx,yAe,yAi]at h2;have:k0+(bQ L).length+x.length+1=k0+((bQ L).length+(x.length+1):Nat):=ym;rw[<-this];exact h2
 .exact qq
end
section
def aAt(n:Int):Prop:=-1000000000<=n/\n<=1000000000
def StW(k:Nat)(s:cM):Prop:=aAA k s/\aCZ (s.num,s.den)/\∀g∈s.yF,aAt g.lo/\aAt g.hi/\∀d∈g.oB,aAt d.shift
def yN(o:eK):List (List UInt8):=o.aU.map aX.name
def StQ(args:List PD)(σ:List U)(p:PD)(σ':List U):Prop:=σ≠[]/\p=.aI []/\∃id o st s k,args=[.ptr id 0,Em.fE.aA o,Em.stop.aA st]/\eQ σ id s k/\eQ σ' id (s++NJ (yN o) st) (k+(bQ (dQ (yN o) st)).length)/\R9 id σ σ'
def aAo(E:aE):Prop:=∃g,E.ret 46=some g/\(∀fl args σ,0<fl->g fl args σ=none)/\∀σ id (o:eK) (st:cM) s k,eQ σ id s k->StW o.aU.length st->(s++NJ (yN o) st).length<=1000000->0<=k->k+(bQ (dQ (yN o) st)).length<=1000000 ->
 ∃σ',g 0 [.ptr id 0,Em.fE.aA o,Em.stop.aA st] σ=some (.aI [],σ')/\eQ σ' id (s++NJ (yN o) st) (k+(bQ (dQ (yN o) st)).length)/\R9 id σ σ'
theorem aHa{α β:Type}{l:List α}{i:Nat}(hi:i<l.length)(f:α->List β):l.flatMap f=(l.take i).flatMap f++(f l[i]++(l.drop (i+1)).flatMap f):=by
 conv=>lhs;rw[<-yCK i l]
 rw[yCF,yAq hi,yBg]
theorem aG8{α β:Type}{l:List α}{i:Nat}(hi:i<l.length)(f:α->β):l.map f=(l.take i).map f++(f l[i]::(l.drop (i+1)).map f):=by
 conv=>lhs;rw[<-yCK i l]
 rw[yAH,yAq hi,yAX]
theorem KS{α:Type}{l:List α}{i:Nat}(hi:i<l.length):l.take (i+1)=l.take i++[l[i]]:=yBX hi
theorem aNp{s:Dr}{k:Int}{F:List (List Tk)}(ht:(s++kR F).length<=1000000)(hk:k+(bQ F).length<=1000000){L R:List (List Tk)}(h:L++R=F):(s++kR L).length<=1000000/\k+(bQ L).length<=1000000:=by
 subst h;rw[aC5]at ht;rw[V4]at hk;simp only[yAa]at *;omega
theorem PR{n:Int}(h:aAt n)(fl:Nat)(σ:List U):KK fl [.int .i64 n] σ=some (.str (Lib.itoa n),σ):=NG n ⟨Da,by have:=h.2;omega⟩ fl σ
theorem SA:∀L:List (List Tk),L.length<=(bQ L).length
 | []=>yAk _
 |x::L=>by
  have:=SA L;rw[vV,yAa,yAK,yAK];omega
theorem aDa{α β:Type}{f:α->List β}(h:∀a,0<(f a).length):∀l:List α,l.length<=(l.flatMap f).length
 | []=>yAk _
 |a::l=>by
  have:=aDa h l;have:=h a;rw[yBg,yAa,yAK];omega
theorem HO{i:Nat}(h:i<=1000000):IntKind.i64.wrap ((i:Int)+1)=i+1:=zd
variable{E:aE}(hU:aG E)
include hU
set_option maxRecDepth 10000
theorem aZr(h0:E 46=none)(hL:RZ E)(h1:E 35=some KL)(h2:E 40=some KK)
  {aC:Dp} {id:Nat} {s:Dr} {k:Int} (o:eK) (st:cM) (hb:eQ aC id s k) (hst:StW o.aU.length st) (ht:(s++NJ (yN o) st).length<=1000000) (hk0:0<=k) (hk:k+(bQ (dQ (yN o) st)).length<=1000000) :
  cF prog E 0 (.inl 46) [.ptr id 0,Em.fE.aA o,Em.stop.aA st] aC (StQ [.ptr id 0,Em.fE.aA o,Em.stop.aA st] aC):=by
 obtain⟨gL,hgL,hpL,hC⟩:=hL;have hpost:∀σ',eQ σ' id (s++NJ (yN o) st) (k+(bQ (dQ (yN o) st)).length)->R9 id aC σ'->StQ [.ptr id 0,Em.fE.aA o,Em.stop.aA st] aC (.aI []) σ':=λσ' b w=>⟨λe=>by have:=hb.lt;rw[e]at this;exact absurd this (yDu _),rfl,id,o,st,s,k,rfl,hb,b,w⟩
 obtain⟨ns,hns⟩:=gn (yN o);rw[hns]at ht hk hpost;obtain⟨on,rs,od,oc⟩:=o;obtain⟨sn,sx,sy,sg⟩:=st;obtain⟨hD,hf,hN⟩:=hst;simp only at hD hf hN;have hpre:=fun {L R:List (List Tk)} (h:L++R=dQ ns ⟨sn,sx,sy,sg⟩)=>aNp (s:=s) (k:=k) (F:=dQ ns ⟨sn,sx,sy,sg⟩) ht hk h
 obtain⟨hd,hhd⟩:=gn ([wT HQ,wT sn,wT NL,fT sx sy]);have hF:dQ ns ⟨sn,sx,sy,sg⟩=hd::sg.flatMap (iW ns):=by rw[<-hhd];rfl
 simp only[yG,PE,eN]at hpost ⊢;obtain⟨O,hO⟩:=gn (PD.agg [.str on,.slice (sz 6 rs) (rs.map Em.bC.aA) .any,.slice (sz 5 od) (od.map Em.div.aA) .any,.slice (sz 5 oc) (oc.map Em.cC.aA) .any]);obtain⟨S,hS⟩:=gn (PD.agg [.str sn,.int .i64 sx,.int .i64 sy,.slice (sz 3 sg) (sg.map Em.cK.aA) .any]);have w0:iU aC id s k [] (aC++[.box O,.box S]) [(aC.length+1,.box S),(aC.length,.box O)]:=by
  have:=((iU.start hb).box O).box S;exact bp
 have xp:∀args σ,rD E 54 0 (.inl 35) args σ=fK E 0 (.inl 35) args σ:=λ_ _=>aC6 yx
 have xi:∀args σ,rD E 54 0 (.inl 40) args σ=fK E 0 (.inl 40) args σ:=λ_ _=>aC6 yx
 have gp:=@aAv sx sy hf;obtain⟨a1,a2⟩:=hpre (L:=[]++[hd]) (R:=sg.flatMap (iW ns)) (by rw[hF];rfl);obtain⟨σ2,l2,w2⟩:=w0.line hC hd (by rw[<-hhd];simp) (by rw[<-hhd];simp) a1 hk0 a2 .full;rw[<-hhd]at l2;simp only[yAX,yBA,KR,aC7,PS]at l2;have x2:=aDb (fl:=0) hgL l2;rw[<-hO,<-hS]at x2;have w0':=w0;rw[<-hO,<-hS]at w0';obtain⟨y1,y2,y3,y4,y5,y6⟩:=aB (w0'.ks (aC.length+1,_) (by simp;rfl)).1;simp only[yAi,yAR,yAQ]at y3 y4 y5 y6;refine cF.aV 56 h0 func46 (h:=?_);have hV:True->aG E:=λ_=>hU
 clear hU;refine aD trivial ?_;refine WL.OX 54 (hV trivial) zb ?_;refine bM (A11 x2 xp xi h1 gp y1 y2 y3 y4 y5 y6) ?_;apply SQ.nil;clear x2 gp y1 y2 y3 y4 y5 y6;have w2':=w2;rw[<-hO,<-hS]at w2';obtain⟨y1,y2,y3,y4,y5,y6⟩:=aB (w2'.ks (aC.length+1,_) (by simp;rfl)).1;refine aD (A6 y1 y2 y3 y4 y5 y6) ?_;obtain⟨SS,hSS⟩:=gn (PD.slice (sz 3 sg) (sg.map Em.cK.aA) .any);obtain⟨bo,hbo⟩:=gn (aC.length);rw[hbo]at w2;refine Wp.dK (λm fr σ=>∃(i:Nat) (σ1:List U),∃gg:Nat->PD,(i+m=sg.length/\iU aC id s k (hd::(sg.take i).flatMap (iW ns)) σ1 [(bo+1,.box S),(bo,.box O)])/\fr=[.ptr id 0,gg 1,gg 2,gg 3,.ptr bo 0,.ptr (bo+1) 0,gg 6,gg 7,gg 8,gg 9,gg 10,gg 11,gg 12,gg 13,gg 14,gg 15,gg 16,gg 17,gg 18,.slice (sz 3 sg) (sg.map Em.cK.aA) .any,.int .i64 sg.length,.int .i64 i,gg 22,gg 23,gg 24,gg 25,gg 26,gg 27,gg 28,gg 29,gg 30,gg 31,gg 32,gg 33,gg 34,gg 35,gg 36,gg 37,gg 38,gg 39,gg 40,gg 41,gg 42,gg 43,gg 44,gg 45,gg 46,gg 47,gg 48,gg 49,gg 50,gg 51,gg 52,gg 53,gg 54,gg 55]/\σ=σ1) ?_ (sg.length) (by refine⟨0,σ2,?_⟩;exact fL (⟨ym,by simpa using w2⟩) @hbo)
 rintro m fr σ ⟨i,σ1,gg,hI,rfl,rfl⟩
 obtain⟨hm,hw⟩:=hI
 by_cases hi:i<sg.length
 .have q1:(i:Int)<(sg.length:Int):=by omega
  obtain⟨g,hg⟩:=gn (sg[i]);have hgm:g∈sg:=hg▸yAm hi
  have hsp:=aHa hi (iW ns);have htk:=KS hi;rw[hg]at hsp htk;obtain⟨g1,g2,gd⟩:=g;obtain⟨n1,n2,n3⟩:=hN _ hgm;simp only at n1 n2 n3;have hDg:=hD _ hgm;simp only at hDg;obtain⟨G,hG⟩:=gn (PD.agg [.int .i64 g1,.int .i64 g2,.slice (sz 2 gd) (gd.map Em.draw.aA) .any]);obtain⟨bg,hbg⟩:=gn (σ.length);have w3:=hw.box G;rw[hbg]at w3;obtain⟨P,hP⟩:=gn (hd::(sg.take i).flatMap (iW ns));rw[hP]at w3;have wi:=HO (i:=i) (by
   have h1:=aDa (f:=iW ns) (λa=>by simp[iW]) (sg.take i);have h2:=SA (hd::(sg.take i).flatMap (iW ns));have h3:=(hpre (L:=P) (R:=iW ns ⟨g1,g2,gd⟩++(sg.drop (i+1)).flatMap (iW ns)) (by rw[hF,hsp,<-hP];rfl)).2;rw[<-hP]at h3;rw[yAt]at h1;rw[yAK]at h2;omega)
  obtain⟨hl,hhl⟩:=gn ([wT s8,nT g1,nT g2]);have FG:dQ ns ⟨sn,sx,sy,sg⟩=P++(hl::gd.map (lS ns)++(sg.drop (i+1)).flatMap (iW ns)):=by rw[hF,hsp,<-hP,<-hhl];simp[iW]
  obtain⟨b1,b2⟩:=hpre (L:=P++[hl]) (R:=gd.map (lS ns)++(sg.drop (i+1)).flatMap (iW ns)) (by rw[FG];simp);obtain⟨dL,l4,w4⟩:=w3.line hC hl (by rw[<-hhl];simp) (by rw[<-hhl];simp) b1 hk0 b2 .full;rw[<-hhl,<-hG]at l4;simp only[yAX,yBA,KR,aC7,PS]at l4;have x4:=aDb (fl:=0) hgL l4;have i1:=PR n1;have i2:=PR n2;obtain⟨u1,v1,r1⟩:=bO σ;have w3':=w3;rw[<-hG]at w3';obtain⟨y1,y2,y3,y4,y5,y6⟩:=aB (w3'.ks _ (yAZ ..)).1;refine aD (A7 q1 hi hg hbg u1 @v1 r1) ?_;refine WL.OX 54 (hV trivial) zb ?_;refine bM (A12 hbg x4 xi h2 @i1 @i2 y1 y2 y3 y4 y5 y6) ?_;apply SQ.nil;clear x4 y1 y2 y3 y4 y5 y6;have w4':=w4;rw[<-hG]at w4';obtain⟨y1,y2,y3,y4,y5,y6⟩:=aB (w4'.ks _ (yAZ ..)).1;refine aD (A7 hbg y1 y2 y3 y4 y5 y6) ?_;obtain⟨M,hM⟩:∃M,M=m:=⟨_,rfl⟩;rw[<-hM]at hm ⊢;refine Wp.dK (λm fr σ=>∃(j:Nat) (σ1:List U),∃gg:Nat->PD,(j+m=gd.length/\iU aC id s k (P++hl::(gd.take j).map (lS ns)) σ1 [(bg,.box G),(bo+1,.box S),(bo,.box O)])/\fr=[.ptr id 0,gg 1,gg 2,gg 3,.ptr bo 0,.ptr (bo+1) 0,gg 6,.ptr bg 0,gg 8,gg 9,gg 10,gg 11,gg 12,gg 13,gg 14,gg 15,gg 16,gg 17,gg 18,.slice (sz 3 sg) (sg.map Em.cK.aA) .any,.int .i64 sg.length,.int .i64 i,gg 22,gg 23,gg 24,gg 25,gg 26,gg 27,gg 28,gg 29,gg 30,gg 31,gg 32,gg 33,gg 34,.slice (sz 2 gd) (gd.map Em.draw.aA) .any,.int .i64 gd.length,.int .i64 j,gg 38,gg 39,gg 40,gg 41,gg 42,gg 43,gg 44,gg 45,gg 46,gg 47,gg 48,gg 49,gg 50,gg 51,gg 52,gg 53,gg 54,gg 55]/\σ=σ1) ?_ (gd.length) (by refine⟨0,dL,?_⟩;exact fL (⟨ym,by simpa using w4⟩) @hbg)
  rintro m fr σ ⟨j,σ1,gg,hI,rfl,rfl⟩
  obtain⟨hm2,hv⟩:=hI
  by_cases hj:j<gd.length
  .have q2:(j:Int)<(gd.length:Int):=by omega
   obtain⟨d,hdd⟩:=gn (gd[j]);have hdm:d∈gd:=hdd▸yAm hj
   have NM:=aG8 hj (lS ns);have HP:=KS hj;rw[hdd]at NM HP;obtain⟨d1,d2⟩:=d;have n4:=n3 _ hdm;obtain⟨e1,e2⟩:=hDg _ hdm;simp only at n4 e1 e2;obtain⟨r,rfl⟩:∃r:Nat,d1=r:=⟨d1.toNat,ym⟩;have hr:r<rs.length:=ym;have hr2:(r:Int)<(rs.length:Int):=ym;obtain⟨R,hR⟩:=gn (rs[r]);have hnm:ns.getD ((r:Int)).toNat []=R.name:=by
    rw[<-hns];simp[yN,hr,hR]
   obtain⟨R1,R2,R3,R4,R5,R6⟩:=R;simp only at hnm;obtain⟨bd,hbd⟩:=gn (σ.length);have w5:=hv.box (.agg [.int .i64 r,.int .i64 d2]);rw[hbd]at w5;obtain⟨b3,b4⟩:=hpre (L:=(P++hl::(gd.take j).map (lS ns))++[lS ns ⟨r,d2⟩]) (R:=(gd.drop (j+1)).map (lS ns)++(sg.drop (i+1)).flatMap (iW ns)) (by rw[FG,NM];simp);obtain⟨SB,l6,w6⟩:=w5.line hC (lS ns ⟨r,d2⟩) (by simp[lS]) (by simp[lS]) b3 hk0 b4 .full;simp only[lS,hnm,yAX,yBA,KR,aC7,PS]at l6;have x6:=aDb (fl:=0) hgL l6;have i3:=PR n4;obtain⟨u1,v1,r1⟩:=bO σ;obtain⟨y1,y2,y3,y4,y5,y6⟩:=aB (w5.ks _ (yAZ ..)).1;have w5':=w5;rw[<-hO]at w5';obtain⟨z1,z2,z3,z4,z5,z6⟩:=aB (w5'.ks (bo,_) za).1;refine aD (A7 q2 hj hdd hbd u1 @v1 r1) ?_;refine WL.aZs 54 (hV trivial) zb ?_;refine j9 (A20 hbd x6 xi h2 @i3 hr hr2 hR y1 y2 y3 y4 y5 y6 z1 @z2 @z3 @z4 @z5 z6) ?_;apply SQ.nil;have wj:=HO (i:=j) (by
    have:=SA ((P++hl::(gd.take j).map (lS ns))++[lS ns ⟨r,d2⟩]);simp only[yAa,yAK,yAe,yAt,yAL]at this b4;omega)
   refine aD wj ?_;have w7:=w6.sub (K':=[(bg,.box G),(bo+1,.box S),(bo,.box O)]) Af;refine aL.normal (m-1) ym (by refine⟨j+1,SB,?_⟩;exact fL (⟨ym,by rw[HP,yAH];simpa using w7⟩) @wj)
  .have q2:¬(j:Int)<(gd.length:Int):=by omega
   obtain rfl:j=gd.length:=ym;refine aD (A2 q2 wi) ?_;rw[yBz]at hv;have w8:=hv.sub (K':=[(bo+1,.box S),(bo,.box O)]) Af;refine aL.normal (M-1) ym (by refine⟨i+1,σ,?_⟩;exact fL (⟨ym,by rw[htk,yCF,yBg,yDn,yAl,<-yAR,hP,show iW ns ⟨g1,g2,gd⟩=hl::gd.map (lS ns) by rw[<-hhl];rfl];exact w8⟩) @wi)
 .have q1:¬(i:Int)<(sg.length:Int):=by omega
  obtain rfl:i=sg.length:=ym;rw[yBz,<-hF]at hw;refine aD q1 ?_;exact⟨_,_,rfl,hpost _ hw.bw λj o hj ho=>hw.kp j o hj ho⟩
omit hU in
theorem aAo.of{E0:aE}(hU:aG E0)(h0:E0 46=none)(hL:RZ E0)(h1:E0 35=some KL)(h2:E0 40=some KK)
  (h:E.ret 46=some (oC prog E0 46 StQ)):aAo E:=by
 refine⟨_,h,aNr,λσ id o st s k hb hst ht hk0 hk=>?_⟩;obtain⟨p,σ',e,_,rfl,id',o',st',s',k',ea,b,b',kk⟩:=aHb (aZr hU h0 hL h1 h2 o st hb hst ht hk0 hk);simp only[yBx,PD.ptr.injEq,yAV]at ea;obtain⟨rfl,ho,hs⟩:=ea;obtain rfl:=Em.fE.inj ho;obtain rfl:=Em.stop.inj hs;obtain⟨rfl,rfl⟩:=hb.uniq b;exact⟨σ',e,b',kk⟩
end
section
def aAw(σ:List U)(tok:Tok)(n:Nat):Prop:=tok=.full\/(0<n/\∃id,tok=.own id/\σ[id]?=some (.own 9 1 n))
def aDc(σ σ':List U):Prop:=∀(j:Nat) (o:U),(∀n,o≠.own 9 1 n)->σ[j]?=some o->σ'[j]?=some o
theorem aDc.bw{σ σ':Dp}{id:Nat}{s:Dr}{k:Int}(h:aDc σ σ')(hb:eQ σ id s k):eQ σ' id s k:=by
 obtain⟨p,z,tok,h1,h2,h3⟩:=hb.ex;exact⟨p,z,tok,h _ _ (λn e=>zh) h1,h2,h3.imp (λh=>h) λ⟨a1,a2,fJ,a3,a4⟩=>⟨a1,a2,fJ,a3,h _ _ (λn e=>zh) a4⟩⟩
theorem iU.app{aQ σ σ':Dp}{id:Nat}{s0:Dr}{k0:Int}{L:List (List Tk)}{K:List (Nat×U)}(h:iU aQ id s0 k0 L σ K)(hk:aDc σ σ'):iU aQ id s0 k0 L σ' K:=
 ⟨hk.bw h.bw,λj o hj e=>hk _ _ (λn e=>zh) (h.kp j o hj e),λp hp=>by
  obtain⟨a1,a2,o,a3⟩:=h.ks p hp;rw[a3]at a1 ⊢;exact⟨hk _ _ (λn e=>zh) a1,a2,o,rfl⟩⟩
theorem aC9{σ:Dp}{tok tk:Tok}(xs ys:List PD)(hx:xs≠[])(hy:ys≠[])(h:aAw σ tok xs.length)(hm:xs.length+ys.length<=100000000) :
  ∃bP σ',dX prog 0 σ 55 (.slice 1 xs tok) (.slice 1 ys tk)=some (.slice 1 (xs++ys) bP,σ')/\aAw σ' bP (xs++ys).length/\aDc σ σ':=by
 have hu:prog.underlying 55=some (.slice 9):=underlying55;obtain⟨i,hi,hi1,hi2,z',KU,hi4⟩:∃i,prog.info? 9=some i/\i.size=1/\i.bytes=16/\∃z,i.zero=some z/\z.cells.size=1:=by
  have h:qR prog 9=some (1,16):=yp;unfold qR at h;split at h
  .rename_i i h1;split at h
   .rename_i z h2;split at h
    .rename_i h3;simp only[yAb,yAc]at h;exact⟨i,h1,h.1,h.2,z,h2,by rw[<-h.1];exact h3.1⟩
    .cases h
   .cases h
  .cases h
 have hx0:0<xs.length:=yBE.2 hx;have hy0:¬ys.length=0:=λe=>hy (yAf e)
 have hmm:xs.length+ys.length<=maxLen:=zy;have hbb:(xs.length+ys.length)*16<=140737488355328:=ym;rcases h with rfl | ⟨h0,id,rfl,h1⟩
 .refine⟨.own σ.length,σ++[.own 9 1 (xs.length+ys.length)],?_,.inr ⟨Ae,σ.length,rfl,by rw[yAa];simp⟩,λj o _ hj=>by rw[yAg (yA.1 hj).1];exact hj⟩;simp only[dX,hu,hi,hi1,hi2,KU,hi4];rw[yAJ ⟨.inr trivial,.inr trivial,ym,trivial,hmm,hbb⟩,yAI hy0]
 .have hl:=(yA.1 h1).1;refine⟨.own id,σ.set id (.own 9 1 (xs.length+ys.length)),?_,.inr ⟨Ae,id,rfl,by rw[yAj hl,yAa]⟩,λj o ho hj=>?_⟩
  .simp only[dX,hu,hi,hi1,hi2,KU,hi4];rw[yAJ ⟨.inr trivial,.inr trivial,ym,trivial,hmm,hbb⟩,yAI hy0,yAJ ⟨yAF _,trivial⟩,h1];simp
  .rw[yAd (λe=>by rw[<-e,h1]at hj;exact ho _ (yBw hj).symm)];exact hj
def NC:Nat->List PD->List U->Option (PD×List U):=λ_ args σ=>match args with
 | [.ptr id 0]=>match σ[id]? with
   |some (.box (.typed 125 [_,.slice _ xs _,_]))=>some (.int .i64 xs.length,σ)
   |_=>none
 |_=>none
theorem eQ.len{σ:Dp}{id:Nat}{s:Dr}{k:Int}(h:eQ σ id s k)(fl:Nat):NC fl [.ptr id 0] σ=some (.int .i64 s.length,σ):=by
 obtain⟨p,z,tok,hb,_⟩:=h.ex;simp[NC,hb]
variable{E:aE}(hU:aG E)
include hU
set_option maxRecDepth 10000
theorem aZq(h0:E 55=none)(fl:Nat)(args:List PD)(σ:List U)(p:PD)(σ':List U)(h:NC fl args σ=some (p,σ')):mB prog E fl (.inl 55) args σ p σ':=by
 unfold NC at h;split at h
 .rename_i id;split at h
  .rename_i a b xs tok n hb;simp only[yAb,yAc]at h;obtain⟨rfl,rfl⟩:=h;obtain⟨y1,y2,y3,y4,y5,y6⟩:=aB hb;obtain⟨p1,σ1,h3,h4,h5⟩:∃p1 σ1,mB prog E fl (.inl 55) [.ptr id 0] σ p1 σ1/\p1=.int .i64 xs.length/\σ1=σ:=by
    suffices hh:cF prog E fl (.inl 55) [.ptr id 0] σ (λp1 σ1=>p1=.int .i64 xs.length/\σ1=σ)from hh.ex
    refine cF.aV 8 h0 func55 (h:=?_);refine aD (A6 y1 y2 y3 y4 y5 y6) ?_;exact aa
   rw[<-h4,<-h5];rw[h5];rw[h5]at h3;exact h3
  .cases h
 .cases h
omit hU in
theorem aW4(hE:aF prog E)(hU:aG E)(h0:E 55=none):aF prog (E.add 55 NC):=
 hE.add yp λfl args σ p σ' h=>aZq hU h0 fl args σ p σ' h
end
end Go.Kz
end
