/- Steps of the proof. -/
import Derived.Test.YtnogdlnjafblaaaGreatDoorI4
import Derived.Test.YtnogdlnjafblaaaGreatDoorH7
import Derived.Test.YtnogdlnjafblaaaGreatDoorI3
set_option linter.all false
set_option maxHeartbeats 40000000
set_option maxRecDepth 100000
open Go.Proofs.Tryz
namespace Go.Kz
open Go Go.Proofs
structure j4 (aQ:List U) (r:PD) (l:List Tk) (σ:List U) (n:Nat) (K:List (Nat×U)):Prop where
 rd:Rd σ r l n
 le:n<=l.length
 kp:∀(j:Nat) (o:U),aQ[j]?=some o->σ[j]?=some o
 len:aQ.length<=σ.length
 ks:∀p∈K,σ[p.1]?=some p.2/\aQ.length<=p.1/\r≠.ptr p.1 0
 rn:∀(j:Nat) (o:U),aQ[j]?=some o->r≠.ptr j 0
 pos:σ≠[]
theorem j4.ne{aQ σ:Dp}{r:PD}{l:List Tk}{n:Nat}{K:List (Nat×U)}(h:j4 aQ r l σ n K)(_:True):σ≠[]:=h.pos
theorem j4.box{aQ σ:Dp}{r:PD}{l:List Tk}{n:Nat}{K:List (Nat×U)}(h:j4 aQ r l σ n K)(o:U):j4 aQ r l (σ++[o]) n ((σ.length,o)::K):=
 ⟨h.rd.more,h.le,λj q hj=>by have:=h.kp j q hj;rw[yAg (yA.1 this).1];exact this,by have:=h.len;simp only[yAa];omega,λp hp=>by
  rcases yAS.1 hp with rfl|hp
  .exact⟨yo,h.len,h.rd.ne (yAk _)⟩
  .obtain⟨h1,h2⟩:=h.ks p hp;exact⟨Co,h2⟩,h.rn,yo⟩
theorem j4.call{aQ σ σ':Dp}{r:PD}{l:List Tk}{n n':Nat}{K:List (Nat×U)}(h:j4 aQ r l σ n K)(h1:Rd σ' r l n')(h2:n'<=l.length)(h3:dW r σ σ')(h4:σ.length<=σ'.length):j4 aQ r l σ' n' K:=
 ⟨h1,h2,λj o hj=>h3 j o (h.rn j o hj) (h.kp j o hj),yBe h.len h4,λp hp=>⟨h3 _ _ (h.ks p hp).2.2 (h.ks p hp).1,(h.ks p hp).2⟩,h.rn,λe=>h.pos (yAf (by rw[e]at h4;simpa using h4))⟩
theorem j4.set{aQ σ:Dp}{r:PD}{l:List Tk}{n i:Nat}{o0 o:U}{K:List (Nat×U)}(K1 K2:List (Nat×U))(h:j4 aQ r l σ n K)(hK:K=K1++(i,o0)::K2)(hne:∀p∈K1++K2,p.1≠i):j4 aQ r l (σ.set i o) n (K1++(i,o)::K2):=by
 subst hK;obtain⟨hi,hi2,KU⟩:=h.ks (i,o0) yo;have hl:=(yA.1 hi).1;refine⟨h.rd.set KU,h.le,λj q hj=>?_,by rw[yAD];exact h.len,λp hp=>?_,h.rn,λe=>h.pos (yAf (by have:=yAP List.length e;rw[yAD]at this;exact this))⟩
 .have:=(yA.1 hj).1;rw[yAd (by have:=hi2;simp only at this;omega)];exact h.kp j q hj
 rcases yBv.1 hp with hp|hp
 .exact cu
 .rcases yAS.1 hp with rfl|hp
  .exact⟨yAj hl,hi2,KU⟩
  .exact cu
theorem j4.er{aQ σ σ':Dp}{r:PD}{l:List Tk}{n:Nat}{K:List (Nat×U)}(h:j4 aQ r l σ n K)(h3:dW r σ σ'):(∀(j:Nat) (o:U),aQ[j]?=some o->σ'[j]?=some o)/\∀p∈K,σ'[p.1]?=some p.2:=
 ⟨λj o hj=>h3 j o (h.rn j o hj) (h.kp j o hj),λp hp=>h3 _ _ (h.ks p hp).2.2 (h.ks p hp).1⟩
theorem fW.QC{aQ σ σ':Dp}{r:PD}{l:List Tk}{q:Nat}{K:List (Nat×U)}{tok:Tok}{e:TypeId}{k n:Nat}(h:fW aQ σ tok e k n)(hS:j4 aQ r l σ q K)(hk:dW r σ σ'):fW aQ σ' tok e k n:=
 ⟨h.row.MM λid o e1 e2=>hk id _ (λe3=>by
  rcases hS.rd with⟨e4,_⟩ | ⟨id',e4,h5⟩
  .rw[e4]at e3;cases e3
  .rw[e4]at e3;simp only[PD.ptr.injEq,yAV]at e3;subst e3;exact absurd e1 (KM h.row h5)) e2,h.ge⟩
theorem fW.WS{aQ σ:Dp}{r:PD}{l:List Tk}{q:Nat}{K:List (Nat×U)}{tok:Tok}{e:TypeId}{k n i:Nat}{p:PD}{o:U}(h:fW aQ σ tok e k n)(hS:j4 aQ r l σ q K)(hi:(i,U.box p)∈K):fW aQ (σ.set i o) tok e k n:=
 ⟨VZ h.row (hS.ks _ hi).1,h.ge⟩
theorem fW.WR{P:Program}{aQ σ:Dp}{r:PD}{l:List Tk}{q:Nat}{K:List (Nat×U)}{t e:TypeId}{k b s:Nat}{xs:Dq}{p:PD}{tk tok:Tok}(h:fW aQ σ tok e k xs.length)(hS:j4 aQ r l σ q K)(hK:∀p∈K,∃o,p.2=U.box o)(hK0:K≠[])
  (hu:P.underlying t=some (.slice e)) (hi:qR P e=some (k,b)) (hs:xs=[]\/s=k) (hm:xs.length+1<=100000000000000) (hb:(xs.length+1)*b<=140737488355328) :
  ∃bP σ',dX P 0 σ t (.slice s xs tok) (.slice k [p] tk)=some (.slice k (xs++[p]) bP,σ')/\fW aQ σ' bP e k (xs.length+1)/\j4 aQ r l σ' q K /\
   ∀eH e2 k2 n2,(∀id,eH=.own id->tok≠.own id)->fW aQ σ eH e2 k2 n2->fW aQ σ' eH e2 k2 n2/\∀id,eH=.own id->bP≠.own id:=by
 obtain⟨bP,σ',h1,h2,h3,h4⟩:=vD (tk:=tk) (p:=p) hu hi hs h.row hm hb;have hks:∀p∈K,σ'[p.1]?=some p.2/\aQ.length<=p.1/\r≠.ptr p.1 0:=λp hp=>by
  exact ku
 obtain⟨x,K',rfl⟩:∃x K',K=x::K':=by
  exact tj
 obtain⟨a1,a2,_⟩:=hks x yo;have hx1:=(yA.1 a1).1;have hlen:aQ.length<=σ'.length:=ym;refine⟨bP,σ',h1,⟨h2,λid e1=>?_⟩,⟨?_,hS.le,λj o hj=>?_,hlen,hks,hS.rn,λe=>by rw[e]at hx1;simp at hx1⟩,λeH e2 k2 n2 hd h5=>⟨⟨h5.row.MM λid o e1 e3=>h3 id o (hd id e1) e3,h5.ge⟩,λid e1 e3=>?_⟩⟩
 .exact ue
 .exact oa
 .refine h3 _ _ (λe1=>?_) (hS.kp j o hj);have:=h.ge j e1;have:=(yA.1 hj).1;omega
 .exact fo
def aOx{α:Type}(aQ:List U)(X:Except Fl (α×Nat))(s c:Nat)(v:Value)(fr:List PD)(σ:List U):Prop:=
 ∃e cs,X=.error e/\v=LF e/\fr[s]?=some (.ptr aQ.length 0)/\fr[s+1]?=some (.ptr (aQ.length+1) 0)/\fr[s+2]?=some (.ptr (aQ.length+2) 0)/\cs.length=c/\cs.all PD.plain=true /\
  σ[aQ.length]?=some (.box (.agg cs))/\σ[aQ.length+1]?=some (.box (.agg [.int .i64 0,.int .i64 0]))/\σ[aQ.length+2]?=some (.box (.int .i64 0))/\∀(j:Nat) (o:U),aQ[j]?=some o->σ[j]?=some o
def aOy{α:Type}(aQ:List U)(X:Except Fl (α×Nat))(aA:α->PD)(s c:Nat)(fr:List PD)(σ:List U):Prop:=
 ∃a n cs,X=.ok (a,n)/\(PD.agg cs).strip=aA a/\cs.length=c/\cs.all PD.plain=true/\fr[s]?=some (.ptr aQ.length 0)/\fr[s+1]?=some (.ptr (aQ.length+1) 0)/\fr[s+2]?=some (.ptr (aQ.length+2) 0) /\
  σ[aQ.length]?=some (.box (.agg cs))/\σ[aQ.length+1]?=some (.box (.agg [.int .i64 0,.int .i64 0]))/\σ[aQ.length+2]?=some (.box (.int .i64 0))/\∀(j:Nat) (o:U),aQ[j]?=some o->σ[j]?=some o
def Z6{α:Type}(X:Except Fl (α×Nat))(aA:α->PD)(c:Nat)(σ:List U)(p:PD)(σ':List U):Prop:=
 (∀(j:Nat) (o:U),σ[j]?=some o->σ'[j]?=some o)/\σ.length<σ'.length /\
 ((∃a n,X=.ok (a,n)/\p=.aI [aA a,.agg [.int .i64 0,.int .i64 0],.int .i64 0])\/∃e cs,X=.error e/\p=.aI [.agg cs,.agg [.int .i64 e.1,.int .i64 e.2.1],.int .i64 e.2.2]/\cs.length=c/\cs.all PD.plain=true)
theorem aIZ:∀ {cs:Dq},cs.all PD.plain=true->(PD.lP cs).all PD.plain=true/\(PD.lP cs).length=cs.length
 | [],_=>⟨rfl,rfl⟩
 |x::cs,h=>by
  simp only[yBK,yAr]at h;obtain⟨h1,h2⟩:=aIZ h.2;refine⟨?_,by simp only[PD.lP,yAK,h2]⟩;simp only[PD.lP,yBK,yAr];refine⟨?_,h1⟩;have:=h.1;cases x<;>first|rfl|(cases this;done)|skip
  rename_i n xs tok;cases xs<;>rfl
theorem N0.ofP{E:aE}{α:Type}{f:FuncId}{fn:Func}{X:Except Fl (α×Nat)}{aA:α->PD}{s c:Nat}{T0:TypeId}{args aH:Dq}{σ σ1:Dp}{x0 z:Code}{id:Nat}{ag:Array Operand}{ts:Array TypeId}{ty:TypeId}{pos:String}{ed:Array Edge}
  (hU:aG E) (hfn:prog.funcs[f]?=some fn) (hb:fn.body=some (.seq x0 (.seq (.region id #[⟨none,.defer { callee:=.value (.func 85),args:=ag,argTypes:=ts },ty,pos,ed,none⟩] false) z)))
  (hx:Ev prog E none x0 0 (args++List.replicate (fn.ntmps-args.length) (.aI [])) [] σ ⟨.normal,aH,[],σ1⟩) (has:jQ aH ag.toList=some [.ptr (σ.length+1) 0,.ptr (σ.length+2) 0])
  (hW:Wp prog E none z 0 aH [] σ1 (λr=>(∃v,r.x=.panic v/\r.ms=[]/\aOx σ X s c v r.fr r.σ)\/((r.x=.normal\/r.x=.ret)/\r.ms=[]/\aOy σ X aA s c r.fr r.σ)))
  (hres:fn.results.toList=[.cell s T0,.cell (s+1) 31,.cell (s+2) 25]) (hs:s+2<7)
  (hl:∀(τ:List U) (i:Nat) (cs:List PD),cs.length=c->cs.all PD.plain=true->τ[i]?=some (.box (.agg cs))->kW prog τ T0 (.ptr i 0)=some (.agg cs)) :
  ∃p σ3,N0 prog E f args σ p σ3/\Z6 X aA c σ p.strip σ3:=by
 have hlow:aBu fn.results.toList=true:=by
  rw[hres];have a1:s<7:=ym;have a2:s+1<7:=ym;simp[aBu,a1,a2,hs]
 have nS:∀(τ:List U) (i:Nat) (a b:Int),τ[i]?=some (.box (.agg [.int .i64 a,.int .i64 b]))->kW prog τ 31 (.ptr i 0)=some (.agg [.int .i64 a,.int .i64 b]):=λτ i a b h=>by simp[kW,h]
 have U1:∀(τ:List U) (i:Nat) (a:Int),τ[i]?=some (.box (.int .i64 a))->kW prog τ 25 (.ptr i 0)=some (.int .i64 a):=λτ i a h=>by simp[kW,h]
 obtain⟨r,h1,h2⟩:=hW.ex;rcases h2 with⟨v,e1,e2,e,cs,e3,rfl,g0,g1,g2,k1,k2,b0,b1,b2,b3⟩ | ⟨e1,e2,a,n,cs,e3,e4,k1,k2,g0,g1,g2,b0,b1,b2,b3⟩
 .have hc:=a4j hU r.σ (σ.length+1) (σ.length+2) e.1 e.2.1 e.2.2 0 0 0 b1 b2 ym;obtain⟨σ3,NW⟩:=gn (((r.σ.set (σ.length+1) (.box (.agg [.int .i64 e.1,.int .i64 e.2.1]))).set (σ.length+2) (.box (.int .i64 e.2.2)))++[.box (.agg [.int .i64 e.1,.int .i64 e.2.1,.int .i64 e.2.2])]);rw[NW]at hc;have l2:=(yA.1 b2).1;have q0:σ3[σ.length]?=some (.box (.agg cs)):=by rw[<-NW,yAg zc,yAd ym,yAd ym];exact b0
  have q1:σ3[σ.length+1]?=some (.box (.agg [.int .i64 e.1,.int .i64 e.2.1])):=by rw[<-NW,yAg zc,yAd ym,yAj ym]
  have q2:σ3[σ.length+2]?=some (.box (.int .i64 e.2.2)):=by rw[<-NW,yAg zc,yAj zc]
  have q3:∀(j:Nat) (o:U),σ[j]?=some o->σ3[j]?=some o:=λj o h=>by
   have:=(yA.1 h).1;rw[<-NW,yAg zc,yAd ym,yAd ym];exact b3 j o h
  have q4:σ.length<σ3.length:=by rw[<-NW];simp;omega
  have hq:pJ prog r.fr σ3 fn.results.toList=some [.agg cs,.agg [.int .i64 e.1,.int .i64 e.2.1],.int .i64 e.2.2]:=by
   rw[hres];simp only[pJ,EU,yAA,g0,g1,g2,yCa,hl _ _ _ k1 k2 q0,nS _ _ _ _ q1,U1 _ _ _ q2]
  refine⟨_,σ3,⟨fn,x0,id,_,ag,ts,ty,pos,ed,z,aH,σ1,_,r,_,_,hfn,hb,hx,has,h1,e2,.inr ⟨_,e1,?_⟩,hc,hlow,hq,rfl⟩,q3,q4,.inr ⟨e,PD.lP cs,e3,rfl,?_,?_⟩⟩
  .rfl
  .rw[(aIZ k2).2,k1]
  .exact(aIZ k2).1
 .have hc:=a4k hU r.σ (σ.length+1) (σ.length+2);have hq:pJ prog r.fr r.σ fn.results.toList=some [.agg cs,.agg [.int .i64 0,.int .i64 0],.int .i64 0]:=by
   rw[hres];simp only[pJ,EU,yAA,g0,g1,g2,yCa,hl _ _ _ k1 k2 b0,nS _ _ _ _ b1,U1 _ _ _ b2]
  have l2:=(yA.1 b2).1;refine⟨_,r.σ,⟨fn,x0,id,_,ag,ts,ty,pos,ed,z,aH,σ1,_,r,_,_,hfn,hb,hx,has,h1,e2,.inl ⟨e1,rfl⟩,hc,hlow,hq,rfl⟩,b3,ym,.inl ⟨a,n,e3,?_⟩⟩;show PD.aI [(PD.agg cs).strip,_,_]=_
  rw[e4];rfl
section
section
variable{P:Program}{E:aE}{ops:Du}{fl:Nat}
theorem aDQ{n k:Nat}{free:Bool}{fr:Dq}{σ σ':Dp}{f:FuncId}{args:Array Operand}{ts:Array TypeId}{ps:Dq}{p:PD}{g:Dj}(hE:E.ret f=some g)(hx:ER fr args.toList=some ps)
  (h:g (if free then fl else max fl σ.length) ps σ=some (p,σ')) (hk:free=false->σ'=σ):eF P (cD P E n) fl free k fr σ (.call { callee:=.value (.func f),args:=args,argTypes:=ts })=some (p,σ'):=by
 have hc:dO fr (.call { callee:=.value (.func f),args:=args,argTypes:=ts })=some (.inl f,ps++[]):=by simp[dO,aT,MV hx]
 rw[yAl]at hc;cases free with
 |true=>
  simp only[yAM]at h;simp only[eF,dF,bT,cR,yBH,Bool.and_false,yAx,yAO,yAM,bK,hc,cD,oI,hE,h]
 |false=>
  obtain rfl:=hk rfl;simp only[yAx,yAO]at h;simp only[eF,dF,bT,cR,yBW,yCg,yAx,yAO,yAM,bK,hc,cD,oI,hE,h,yCe,yAl]
theorem aQg{n:Nat}{fr F:Dq}{σ hs S:Dp}(hreg:aEd ops=true)(hh:j6 P ops.toList=some hs)(h:DQ P (cD P E n) fl ops 0 σ.length ops.toList fr (σ++hs) F S):iO P (cD P E n) fl ops fr σ=some (F,S):=by
 obtain⟨tr,ht⟩:=h;unfold aEd at hreg;rw[o4]at hreg;simp only[yAr,yAn,yAY,yBi,yBu]at hreg;unfold iO kX;simp only[hreg.1,yAM,hh,ht];rw[yAJ];simp only[qP,yAn,yAY,yBi,yBu];intro k hk;rcases hreg.2 k hk with h|h
 .exact .inl h
 .refine .inr λi hi=>?_
  rcases h i hi with h|h
  .exact .inl (.inl h)
  .exact .inl (.inr h)
theorem Wp.a1R{rd:Option Nat}{ms:List Nat}{Q:PO->Prop}{id:Nat}{y:Code}{fr F:Dq}{σ hs S:Dp}(hreg:aEd ops=true)(hh:j6 P ops.toList=some hs)(h:∀n,DQ P (cD P E n) fl ops 0 σ.length ops.toList fr (σ++hs) F S)(k:Wp P E rd y fl F ms S Q):Wp P E rd (.seq (.region id ops true) y) fl fr ms σ Q:=
 .seq ⟨_,.OX (N:=0) (λ_ _=>aQg hreg hh (h _)),.normal k⟩
theorem WL.a1P{rd:Option Nat}{ms:List Nat}{Q:PO->Prop}{id:Nat}{y:Code}{fr:Dq}{σ hs:Dp}(k:Nat){o:Oper}{rest:List Oper}{v:Value}{τ:Dp}{f:FuncId}{x:PD}{F:Dq}{S:Dp}
  (hU:aG E) (hh:j6 P ops.toList=some hs) (hd:ops.toList.drop k=o::rest) (hc:(WN o&&WM (ops.toList.take k)&&(ops.toList.all λo=>match o.dst with|some d=>decide (7<=d)|none=>true)&&aEd ops)=true) (hx:x.marked=true)
  (h:SQ P (fK E) fl ops (ops.toList.take k) fr (σ++hs) (IA P E fl ops o v τ))
  (e1:∀n,DQ P (cD P (E.KC fl f x v τ) n) fl ops 0 σ.length ops.toList fr (σ++hs) F S) (e2:F.any PD.marked=true) (hQ:Q ⟨.panic v,fr,ms,τ⟩):Wp P E rd (.seq (.region id ops true) y) fl fr ms σ Q:=by
 simp only[yAr]at hc;obtain⟨⟨⟨c1,c2⟩,c3⟩,c4⟩:=hc;exact WL.a1u k f x hU hh hd c1 c2 c3 h hx ⟨F,S,λn=>aQg c4 hh (e1 n),e2⟩ hQ
end
end
section
section
variable{P:Program}{E:aE}{ops:Du}{fl:Nat}
theorem aQf{cE:Nat}{σ σ':Dp}{t:TypeId}{s x p:PD}(h:dX P cE σ t s x=some (p,σ'))(hl:σ.length<=cE):dX P fl σ t s x=some (p,σ')/\σ++σ'.drop σ.length=σ':=by
 have same:σ++σ.drop σ.length=σ:=yo;have more:∀o:U,σ++(σ++[o]).drop σ.length=σ++[o]:=λo=>yo
 unfold dX at h ⊢;split at h
 .rename_i e he;split at h
  .rename_i i hi;split at h
   .rename_i z sz xs tok sz' ys bP hz;split at h
    .rename_i hc;simp only[he,hi,hz,yAJ hc];split at h
     .rename_i h0;simp only[yAb,yAc]at h;obtain⟨rfl,rfl⟩:=h;exact⟨by rw[yAJ h0],same⟩
     .rename_i h0;rw[yAI h0];split at h
      .exact sj
      .exact sj
      .rename_i id
       exfalso
       split at h
       .rename_i h1;rw[yBo ym]at h;cases h
       .cases h
      .cases h
    .cases h
   .cases h
  .cases h
 .cases h
theorem a35{n:Nat}{σ:Dp}{t:TypeId}{s x:PD}(h:∀t,qS t n=false):nO P n fl σ t s x=none:=by
 unfold nO;rw[h t,yAI yx]
theorem a36{n:Nat}{σ:Dp}{t:TypeId}{s:PD}{m:Int}(h:∀t,qS t n=false):OS P n σ t s m=none:=by
 unfold OS;split
 .rw[yAI (by rw[h t];simp)]
 .rfl
theorem a38{cE:Nat}{fr:Dq}{σ σ':Dp}{op:Op}{p:PD}(ha:isApp op=true)(hn:∀t,qS t fr.length=false)(h:pop P cE fr σ op=some (p,σ'))(hl:σ.length<=cE):pop P fl fr σ op=some (p,σ')/\σ++σ'.drop σ.length=σ':=by
 cases op with
 |call c=>
  obtain⟨cal,args,ts⟩:=c;cases cal with
  |value v=>cases ha
  |invoke _ _=>cases ha
  |builtin b=>
   cases b<;>first|(cases ha;done)|skip
   unfold pop at h ⊢;simp only[dB,MU]at h ⊢;unfold cO at h ⊢;simp only[a35 hn,a36 hn]at h ⊢;cases hp:jQ fr args.toList with
   |none=>simp only[hp]at h;cases h
   |some ps=>
   simp only[hp]at h ⊢;split at h
   .rename_i s x t t' h1 h2;split at h
    .rename_i h3;rw[yAJ h3];exact aQf h hl
    .rename_i h3;rw[yAI h3];split at h
     .rename_i l h4
      try simp only[h4]
      split at h
      .rename_i h5;rw[yAJ h5];exact aQf h hl
      .cases h
     .cases h
     .cases h
   .cases h
 |_=>cases ha
theorem a39{fr:Dq}{op:Op}(h:lK op=true):dO fr op=none:=by
 cases op<;>first|rfl|skip
 rename_i c;obtain⟨cal,args,ts⟩:=c;cases cal with
 |value v=>simp[lK,dF,dE,jO,eU,isApp]at h
 |builtin b=>rfl
 |invoke _ _=>simp[lK,dF,dE,jO,eU,isApp]at h
theorem aIV{call:b9}{n:Nat}{ms:List Nat}:∀(l:List Oper) (i k:Nat) (fr:List PD) (σ:List U) (y:List TE×Dq×List U),(∀o∈l,(dF o.op||dE o.op||bT o.op||jO o.op||dJ o.op)=true)->(l.all λo=>lK o.op)=true->(∀t,qS t fr.length=false) ->
  eM P (cD P E n) fl ops ms i k l fr σ=some y->dS P call fl ops l fr σ=some (y.2.1,y.2.2)
 | [],_,_,_,_,y,_,_,_,h=>by
   simp only[eM,yAb]at h;subst h;rfl
 |o::l,i,k,fr,σ,y,hsh,hk,hn,h=>by
  simp only[yBK,yAr]at hk;obtain⟨hko,hkl⟩:=hk;have hka:=(aEb hko).1;have hlen:∀p,∀t,qS t (aM fr o.dst p).length=false:=λp t=>by
   have:(aM fr o.dst p).length=fr.length:=by
    unfold aM;split<;>simp
   rw[this];exact hn t
  simp only[eM,dS]at h ⊢;split at h
  .rename_i hw;rw[yAJ hw];split at h
   .rename_i p σ1 hp;split at h
    .rename_i tr fr' qV hr;simp only[yAb]at h;subst h;have ih:=aIV (call:=call) l _ _ _ _ _ (λo ho=>hsh o (by simp[ho])) hkl (hlen _) hr;have hst:bK P call fl fr σ o.op=some (p,σ1):=by
      rw[T3 (hsh o yo) hka]at hp;have hcal:∀fl (call:b9),bK P call fl fr σ o.op=pop P fl fr σ o.op:=λfl call=>by
       unfold bK;rw[a39 hko]
      split at hp
      .rw[hcal]at hp ⊢;exact hp
      .rename_i hm;have hmv:cR o.op=true:=by
        cases hx:cR o.op with
        |true=>rfl
        |false=>rw[hx]at hm;simp at hm
       split at hp
       .rename_i p1 σ2 hq;simp only[yAb,yAc]at hp;obtain⟨rfl,rfl⟩:=hp;rw[hcal]at hq ⊢;obtain⟨e1,e2⟩:=a38 (fl:=fl) ((aEb hko).2 hmv) hn hq (Nat.le_max_right _ _);rw[e2];exact e1
       .cases hp
     rw[hst];exact ih
    .cases h
   .cases h
  .rename_i hw;rw[yAI hw];split at h
   .rename_i tr fr' qV hr;simp only[yAb]at h;subst h;exact aIV (call:=call) l _ _ _ _ (tr,fr',qV) (λo ho=>hsh o (by simp[ho])) hkl (hlen _) hr
   .cases h
theorem Wp.a1Z{rd:Option Nat}{ms:List Nat}{Q:PO->Prop}{id:Nat}{fr:Dq}{σ:Dp}(ρ:List (Nat×Nat))(B:List Nat)(L:List (Option Nat))(hs:(vL ops&&MC ops.toList&&TN ops&&ops.toList.all λo=>lK o.op)=true)(hn:∀t,qS t fr.length=false)(hbx:∀id∈B,∃b,σ[id]?=some (U.box b))
  (hρ:cG.X7 fr ρ) (hL:WQ ops.toList (cG.of ρ)=L) (hB:wC B L) (h:SQ P (FM E B) fl ops ops.toList fr σ (λfr' σ'=>Q ⟨.normal,fr',ms,σ'⟩)):Wp P E rd (.region id ops true) fl fr ms σ Q:=by
 obtain⟨fr',σ',h1,h2⟩:=h.ex;rw[yAr]at hs;obtain⟨hs1,hs2⟩:=hs;refine⟨_,.OX (N:=0) (λn _=>?_),h2⟩;cases hd:kX P (cD P E n) fl ops fr σ with
 |none=>exact aIW ρ B hs1 hbx hd (cG.aEc ρ hρ) hL hB h1
 |some y=>
  unfold iO;rw[hd];simp only;have h3:=hs1;simp only[yAr,vL]at h3;obtain⟨⟨a1,a2⟩,_⟩:=h3;rw[o4]at a1;unfold kX at hd;simp only[a1,yAM,X8 a2,yAl]at hd;split at hd
  .rename_i tr xX σ2 hr;split at hd
   .simp only[yAb]at hd;subst hd;have:=aIV (call:=FM E B) ops.toList _ _ _ _ _ (λo ho=>by
     obtain⟨i,hi⟩:=yCH ho;exact(MK a1).shape i o Bo) hs2 hn hr
    rw[h1]at this;simp only[yAb,yAc]at this;rw[this.1,this.2]
   .cases hd
  .cases hd
end
theorem j4.sub{aQ σ:Dp}{r:PD}{l:List Tk}{n:Nat}{K K':List (Nat×U)}(h:j4 aQ r l σ n K)(hs:∀p∈K',p∈K):j4 aQ r l σ n K':=
 ⟨h.rd,h.le,h.kp,h.len,λp hp=>h.ks p (hs p hp),h.rn,h.pos⟩
end
section
def RdC(E:aE):Prop:=∃g,E.ret 86=some g/\∀σ l,l.length<=100000->∃id σ',g 0 [dA.aA l] σ=some (.ptr id 0,σ')/\σ.length<=id/\Rd σ' (.ptr id 0) l 0/\σ.length<=σ'.length/\σ'≠[]/\∀(j:Nat) (q:U),σ[j]?=some q->σ'[j]?=some q
theorem j4.start{aQ σ σ':Dp}{id:Nat}{l:List Tk}{K:List (Nat×U)}(h1:Rd σ' (.ptr id 0) l 0)(h2:σ.length<=id)(h3:∀(j:Nat) (q:U),σ[j]?=some q->σ'[j]?=some q)(h4:aQ.length<=σ.length)(h5:∀(j:Nat) (q:U),aQ[j]?=some q->σ[j]?=some q)(h6:∀p∈K,σ[p.1]?=some p.2/\aQ.length<=p.1)(h7:σ.length<=σ'.length)(h8:σ'≠[]):j4 aQ (.ptr id 0) l σ' 0 K:=
 ⟨h1,yAF _,λj q h=>h3 j q (h5 j q h),ym,λp hp=>⟨h3 _ _ (h6 p hp).1,(h6 p hp).2,λe=>by
  simp only[PD.ptr.injEq,yAV]at e;have:=(yA.1 (h6 p hp).1).1;omega⟩,λj o h e=>by
  simp only[PD.ptr.injEq,yAV]at e;have:=(yA.1 h).1;omega,h8⟩
variable{E:aE}(hU:aG E)
include hU
set_option maxRecDepth 10000
end
section
variable{E:aE}(hU:aG E)
include hU
set_option maxRecDepth 10000
theorem a1B(τ:List U)(i:Nat)(cs:List PD)(hc:cs.length=4)(hp:cs.all PD.plain=true)(h:τ[i]?=some (.box (.agg cs))):kW prog τ 42 (.ptr i 0)=some (.agg cs):=by
 match cs,hc with
 | [a,b,c,d],_=>simp[kW,h]
end
end Go.Kz
