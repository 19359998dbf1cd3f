/- Steps of the proof. -/
import Derived.Test.YtnogdlnjafblaaaGreatDoorG4
import Derived.Test.YtnogdlnjafblaaaGreatDoorP7
import Derived.Test.YtnogdlnjafblaaaGreatDoorG3
set_option linter.all false
set_option maxHeartbeats 40000000
set_option maxRecDepth 100000
open Go.Proofs.Tryz
namespace Go.Kz
open Go Go.Proofs
structure jF (aR:List U) (r:PD) (l:List Tk) (σ:List U) (n:Nat) (K:List (Nat×U)):Prop where
 rd:Rd σ r l n
 le:n<=l.length
 kp:∀(j:Nat) (o:U),aR[j]?=some o->σ[j]?=some o
 len:aR.length<=σ.length
 ks:∀p∈K,σ[p.1]?=some p.2/\aR.length<=p.1/\r≠.ptr p.1 0
 rn:∀(j:Nat) (o:U),aR[j]?=some o->r≠.ptr j 0
 pos:σ≠[]
theorem jF.ne{aR σ:Bv}{r:PD}{l:List Tk}{n:Nat}{K:List (Nat×U)}(h:jF aR r l σ n K)(_:True):σ≠[]:=h.pos
theorem jF.box{aR σ:Bv}{r:PD}{l:List Tk}{n:Nat}{K:List (Nat×U)}(h:jF aR r l σ n K)(o:U):jF aR r l (σ++[o]) n ((σ.length,o)::K):=
 ⟨h.rd.more,h.le,λj q hj=>by have:=h.kp j q hj;rw[yAg (yA.1 this).1];exact this,by have:=h.len;simp only[yAa];omega,λp hp=>by
  rcases yAS.1 hp with rfl|hp
  .exact⟨wz,h.len,h.rd.ne (yAk _)⟩
  .obtain⟨h1,h2⟩:=h.ks p hp;exact⟨Az,h2⟩,h.rn,wz⟩
theorem jF.call{aR σ σ':Bv}{r:PD}{l:List Tk}{n n':Nat}{K:List (Nat×U)}(h:jF aR r l σ n K)(h1:Rd σ' r l n')(h2:n'<=l.length)(h3:dH r σ σ')(h4:σ.length<=σ'.length):jF aR r l σ' n' K:=
 ⟨h1,h2,λj o hj=>h3 j o (h.rn j o hj) (h.kp j o hj),yBd h.len h4,λp hp=>⟨h3 _ _ (h.ks p hp).2.2 (h.ks p hp).1,(h.ks p hp).2⟩,h.rn,λe=>h.pos (yAf (by rw[e]at h4;simpa using h4))⟩
theorem jF.set{aR σ:Bv}{r:PD}{l:List Tk}{n i:Nat}{o0 o:U}{K:List (Nat×U)}(K1 K2:List (Nat×U))(h:jF aR r l σ n K)(hK:K=K1++(i,o0)::K2)(hne:∀p∈K1++K2,p.1≠i):jF aR r l (σ.set i o) n (K1++(i,o)::K2):=by
 subst hK;obtain⟨hi,hi2,IE⟩:=h.ks (i,o0) wz;have hl:=(yA.1 hi).1;refine⟨h.rd.set IE,h.le,λj q hj=>?_,by rw[yAD];exact h.len,λp hp=>?_,h.rn,λe=>h.pos (yAf (by have:=yAP List.length e;rw[yAD]at this;exact this))⟩
 .have:=(yA.1 hj).1;rw[yAd (by have:=hi2;simp only at this;omega)];exact h.kp j q hj
 rcases yBn.1 hp with hp|hp
 .exact bz
 .rcases yAS.1 hp with rfl|hp
  .exact⟨yAj hl,hi2,IE⟩
  .exact bz
theorem jF.er{aR σ σ':Bv}{r:PD}{l:List Tk}{n:Nat}{K:List (Nat×U)}(h:jF aR r l σ n K)(h3:dH r σ σ'):(∀(j:Nat) (o:U),aR[j]?=some o->σ'[j]?=some o)/\∀p∈K,σ'[p.1]?=some p.2:=
 ⟨λj o hj=>h3 j o (h.rn j o hj) (h.kp j o hj),λp hp=>h3 _ _ (h.ks p hp).2.2 (h.ks p hp).1⟩
theorem fD.M9{aR σ σ':Bv}{r:PD}{l:List Tk}{q:Nat}{K:List (Nat×U)}{tok:Tok}{e:TypeId}{k n:Nat}(h:fD aR σ tok e k n)(hS:jF aR r l σ q K)(hk:dH r σ σ'):fD aR σ' tok e k n:=
 ⟨h.row.LQ λid o e1 e2=>hk id _ (λe3=>by
  rcases hS.rd with⟨e4,_⟩ | ⟨id',e4,h5⟩
  .rw[e4]at e3;cases e3
  .rw[e4]at e3;simp only[PD.ptr.injEq,yAW]at e3;subst e3;exact absurd e1 (H8 h.row h5)) e2,h.ge⟩
theorem fD.TM{aR σ:Bv}{r:PD}{l:List Tk}{q:Nat}{K:List (Nat×U)}{tok:Tok}{e:TypeId}{k n i:Nat}{p:PD}{o:U}(h:fD aR σ tok e k n)(hS:jF aR r l σ q K)(hi:(i,U.box p)∈K):fD aR (σ.set i o) tok e k n:=
 ⟨SU h.row (hS.ks _ hi).1,h.ge⟩
theorem fD.TL{P:Program}{aR σ:Bv}{r:PD}{l:List Tk}{q:Nat}{K:List (Nat×U)}{t e:TypeId}{k b s:Nat}{xs:Bw}{p:PD}{tk tok:Tok}(h:fD aR σ tok e k xs.length)(hS:jF aR r l σ q K)(hK:∀p∈K,∃o,p.2=U.box o)(hK0:K≠[])
  (hu:P.underlying t=some (.slice e)) (hi:J0 P e=some (k,b)) (hs:xs=[]\/s=k) (hm:xs.length+1<=100000000000000) (hb:(xs.length+1)*b<=140737488355328) :
  ∃bY σ',dV P 0 σ t (.slice s xs tok) (.slice k [p] tk)=some (.slice k (xs++[p]) bY,σ')/\fD aR σ' bY e k (xs.length+1)/\jF aR r l σ' q K /\
   ∀dU e2 k2 n2,(∀id,dU=.own id->tok≠.own id)->fD aR σ dU e2 k2 n2->fD aR σ' dU e2 k2 n2/\∀id,dU=.own id->bY≠.own id:=by
 obtain⟨bY,σ',h1,h2,h3,h4⟩:=JZ (tk:=tk) (p:=p) hu hi hs h.row hm hb;have hks:∀p∈K,σ'[p.1]?=some p.2/\aR.length<=p.1/\r≠.ptr p.1 0:=λp hp=>by
  exact js
 obtain⟨x,K',rfl⟩:∃x K',K=x::K':=by
  exact qu
 obtain⟨a1,a2,_⟩:=hks x wz;have hx1:=(yA.1 a1).1;have hlen:aR.length<=σ'.length:=xb;refine⟨bY,σ',h1,⟨h2,λid e1=>?_⟩,⟨?_,hS.le,λj o hj=>?_,hlen,hks,hS.rn,λe=>by rw[e]at hx1;simp at hx1⟩,λdU e2 k2 n2 hd h5=>⟨⟨h5.row.LQ λid o e1 e3=>h3 id o (hd id e1) e3,h5.ge⟩,λid e1 e3=>?_⟩⟩
 .exact ri
 .exact mh
 .refine h3 _ _ (λe1=>?_) (hS.kp j o hj);have:=h.ge j e1;have:=(yA.1 hj).1;omega
 .exact eg
def aLE{α:Type}(aR:List U)(X:Except Fl (α×Nat))(s c:Nat)(v:Value)(fr:List PD)(σ:List U):Prop:=
 ∃e cs,X=.error e/\v=IT e/\fr[s]?=some (.ptr aR.length 0)/\fr[s+1]?=some (.ptr (aR.length+1) 0)/\fr[s+2]?=some (.ptr (aR.length+2) 0)/\cs.length=c/\cs.all PD.plain=true /\
  σ[aR.length]?=some (.box (.agg cs))/\σ[aR.length+1]?=some (.box (.agg [.int .i64 0,.int .i64 0]))/\σ[aR.length+2]?=some (.box (.int .i64 0))/\∀(j:Nat) (o:U),aR[j]?=some o->σ[j]?=some o
def aLF{α:Type}(aR:List U)(X:Except Fl (α×Nat))(aA:α->PD)(s c:Nat)(fr:List PD)(σ:List U):Prop:=
 ∃a n cs,X=.ok (a,n)/\(PD.agg cs).strip=aA a/\cs.length=c/\cs.all PD.plain=true/\fr[s]?=some (.ptr aR.length 0)/\fr[s+1]?=some (.ptr (aR.length+1) 0)/\fr[s+2]?=some (.ptr (aR.length+2) 0) /\
  σ[aR.length]?=some (.box (.agg cs))/\σ[aR.length+1]?=some (.box (.agg [.int .i64 0,.int .i64 0]))/\σ[aR.length+2]?=some (.box (.int .i64 0))/\∀(j:Nat) (o:U),aR[j]?=some o->σ[j]?=some o
def WR{α:Type}(X:Except Fl (α×Nat))(aA:α->PD)(c:Nat)(σ:List U)(p:PD)(σ':List U):Prop:=
 (∀(j:Nat) (o:U),σ[j]?=some o->σ'[j]?=some o)/\σ.length<σ'.length /\
 ((∃a n,X=.ok (a,n)/\p=.aK [aA a,.agg [.int .i64 0,.int .i64 0],.int .i64 0])\/∃e cs,X=.error e/\p=.aK [.agg cs,.agg [.int .i64 e.1,.int .i64 e.2.1],.int .i64 e.2.2]/\cs.length=c/\cs.all PD.plain=true)
theorem aGK:∀ {cs:Bw},cs.all PD.plain=true->(PD.kP cs).all PD.plain=true/\(PD.kP cs).length=cs.length
 | [],_=>⟨rfl,rfl⟩
 |x::cs,h=>by
  simp only[yBG,yAr]at h;obtain⟨h1,h2⟩:=aGK h.2;refine⟨?_,by simp only[PD.kP,yAK,h2]⟩;simp only[PD.kP,yBG,yAr];refine⟨?_,h1⟩;have:=h.1;cases x<;>first|rfl|(cases this;done)|skip
  rename_i n xs tok;cases xs<;>rfl
theorem K8.ofP{E:aE}{α:Type}{f:FuncId}{fn:Func}{X:Except Fl (α×Nat)}{aA:α->PD}{s c:Nat}{T0:TypeId}{args aG:Bw}{σ σ1:Bv}{x0 z:Code}{id:Nat}{ag:Array Operand}{ts:Array TypeId}{ty:TypeId}{pos:String}{ed:Array Edge}
  (hU:aF E) (hfn:prog.funcs[f]?=some fn) (hb:fn.body=some (.seq x0 (.seq (.region id #[⟨none,.defer { callee:=.value (.func 85),args:=ag,argTypes:=ts },ty,pos,ed,none⟩] false) z)))
  (hx:Ev prog E none x0 0 (args++List.replicate (fn.ntmps-args.length) (.aK [])) [] σ ⟨.normal,aG,[],σ1⟩) (has:iX aG ag.toList=some [.ptr (σ.length+1) 0,.ptr (σ.length+2) 0])
  (hW:Wp prog E none z 0 aG [] σ1 (λr=>(∃v,r.x=.panic v/\r.ms=[]/\aLE σ X s c v r.fr r.σ)\/((r.x=.normal\/r.x=.ret)/\r.ms=[]/\aLF σ X aA s c r.fr r.σ)))
  (hres:fn.results.toList=[.cell s T0,.cell (s+1) 31,.cell (s+2) 25]) (hs:s+2<7)
  (hl:∀(τ:List U) (i:Nat) (cs:List PD),cs.length=c->cs.all PD.plain=true->τ[i]?=some (.box (.agg cs))->j8 prog τ T0 (.ptr i 0)=some (.agg cs)) :
  ∃p σ3,K8 prog E f args σ p σ3/\WR X aA c σ p.strip σ3:=by
 have hlow:ZV fn.results.toList=true:=by
  rw[hres];have a1:s<7:=xb;have a2:s+1<7:=xb;simp[ZV,a1,a2,hs]
 have mH:∀(τ:List U) (i:Nat) (a b:Int),τ[i]?=some (.box (.agg [.int .i64 a,.int .i64 b]))->j8 prog τ 31 (.ptr i 0)=some (.agg [.int .i64 a,.int .i64 b]):=λτ i a b h=>by simp[j8,h]
 have RR:∀(τ:List U) (i:Nat) (a:Int),τ[i]?=some (.box (.int .i64 a))->j8 prog τ 25 (.ptr i 0)=some (.int .i64 a):=λτ i a h=>by simp[j8,h]
 obtain⟨r,h1,h2⟩:=hW.ex;rcases h2 with⟨v,e1,e2,e,cs,e3,rfl,g0,g1,g2,k1,k2,b0,b1,b2,b3⟩ | ⟨e1,e2,a,n,cs,e3,e4,k1,k2,g0,g1,g2,b0,b1,b2,b3⟩
 .have hc:=aZm hU r.σ (σ.length+1) (σ.length+2) e.1 e.2.1 e.2.2 0 0 0 b1 b2 xb;obtain⟨σ3,U1⟩:=gn (((r.σ.set (σ.length+1) (.box (.agg [.int .i64 e.1,.int .i64 e.2.1]))).set (σ.length+2) (.box (.int .i64 e.2.2)))++[.box (.agg [.int .i64 e.1,.int .i64 e.2.1,.int .i64 e.2.2])]);rw[U1]at hc;have l2:=(yA.1 b2).1;have q0:σ3[σ.length]?=some (.box (.agg cs)):=by rw[<-U1,yAg xw,yAd xb,yAd xb];exact b0
  have q1:σ3[σ.length+1]?=some (.box (.agg [.int .i64 e.1,.int .i64 e.2.1])):=by rw[<-U1,yAg xw,yAd xb,yAj xb]
  have q2:σ3[σ.length+2]?=some (.box (.int .i64 e.2.2)):=by rw[<-U1,yAg xw,yAj xw]
  have q3:∀(j:Nat) (o:U),σ[j]?=some o->σ3[j]?=some o:=λj o h=>by
   have:=(yA.1 h).1;rw[<-U1,yAg xw,yAd xb,yAd xb];exact b3 j o h
  have q4:σ.length<σ3.length:=by rw[<-U1];simp;omega
  have hq:oI prog r.fr σ3 fn.results.toList=some [.agg cs,.agg [.int .i64 e.1,.int .i64 e.2.1],.int .i64 e.2.2]:=by
   rw[hres];simp only[oI,CO,yAA,g0,g1,g2,yBY,hl _ _ _ k1 k2 q0,mH _ _ _ _ q1,RR _ _ _ q2]
  refine⟨_,σ3,⟨fn,x0,id,_,ag,ts,ty,pos,ed,z,aG,σ1,_,r,_,_,hfn,hb,hx,has,h1,e2,.inr ⟨_,e1,?_⟩,hc,hlow,hq,rfl⟩,q3,q4,.inr ⟨e,PD.kP cs,e3,rfl,?_,?_⟩⟩
  .rfl
  .rw[(aGK k2).2,k1]
  .exact(aGK k2).1
 .have hc:=aZn hU r.σ (σ.length+1) (σ.length+2);have hq:oI prog r.fr r.σ fn.results.toList=some [.agg cs,.agg [.int .i64 0,.int .i64 0],.int .i64 0]:=by
   rw[hres];simp only[oI,CO,yAA,g0,g1,g2,yBY,hl _ _ _ k1 k2 b0,mH _ _ _ _ b1,RR _ _ _ b2]
  have l2:=(yA.1 b2).1;refine⟨_,r.σ,⟨fn,x0,id,_,ag,ts,ty,pos,ed,z,aG,σ1,_,r,_,_,hfn,hb,hx,has,h1,e2,.inl ⟨e1,rfl⟩,hc,hlow,hq,rfl⟩,b3,xb,.inl ⟨a,n,e3,?_⟩⟩;show PD.aK [(PD.agg cs).strip,_,_]=_
  rw[e4];rfl
section
section
variable{P:Program}{E:aE}{ops:Cb}{fl:Nat}
theorem aB4{n k:Nat}{free:Bool}{fr:Bw}{σ σ':Bv}{f:FuncId}{args:Array Operand}{ts:Array TypeId}{ps:Bw}{p:PD}{g:Bq}(hE:E.ret f=some g)(hx:CM fr args.toList=some ps)
  (h:g (if free then fl else max fl σ.length) ps σ=some (p,σ')) (hk:free=false->σ'=σ):eA P (bV P E n) fl free k fr σ (.call { callee:=.value (.func f),args:=args,argTypes:=ts })=some (p,σ'):=by
 have hc:dI fr (.call { callee:=.value (.func f),args:=args,argTypes:=ts })=some (.inl f,ps++[]):=by simp[dI,aT,J7 hx]
 rw[yAl]at hc;cases free with
 |true=>
  simp only[yAM]at h;simp only[eA,cW,bZ,cI,yBw,Bool.and_false,yAx,yAN,yAM,bI,hc,bV,oJ,hE,h]
 |false=>
  obtain rfl:=hk rfl;simp only[yAx,yAN]at h;simp only[eA,cW,bZ,cI,yBR,yCc,yAx,yAN,yAM,bI,hc,bV,oJ,hE,h,yCh,yAl]
theorem aNn{n:Nat}{fr F:Bw}{σ hs S:Bv}(hreg:aCr ops=true)(hh:kN P ops.toList=some hs)(h:DQ P (bV P E n) fl ops 0 σ.length ops.toList fr (σ++hs) F S):pG P (bV P E n) fl ops fr σ=some (F,S):=by
 obtain⟨tr,ht⟩:=h;unfold aCr at hreg;rw[nP]at hreg;simp only[yAr,yAn,yAZ,yBf,yBm]at hreg;unfold pG mA;simp only[hreg.1,yAM,hh,ht];rw[yAJ];simp only[CH,yAn,yAZ,yBf,yBm];intro k hk;rcases hreg.2 k hk with h|h
 .exact .inl h
 .refine .inr λi hi=>?_
  rcases h i hi with h|h
  .exact .inl (.inl h)
  .exact .inl (.inr h)
theorem Wp.aW1{rd:Option Nat}{ms:List Nat}{Q:PO->Prop}{id:Nat}{y:Code}{fr F:Bw}{σ hs S:Bv}(hreg:aCr ops=true)(hh:kN P ops.toList=some hs)(h:∀n,DQ P (bV P E n) fl ops 0 σ.length ops.toList fr (σ++hs) F S)(k:Wp P E rd y fl F ms S Q):Wp P E rd (.seq (.region id ops true) y) fl fr ms σ Q:=
 .seq ⟨_,.L0 (N:=0) (λ_ _=>aNn hreg hh (h _)),.normal k⟩
theorem WL.aWZ{rd:Option Nat}{ms:List Nat}{Q:PO->Prop}{id:Nat}{y:Code}{fr:Bw}{σ hs:Bv}(k:Nat){o:Oper}{rest:List Oper}{v:Value}{τ:Bv}{f:FuncId}{x:PD}{F:Bw}{S:Bv}
  (hU:aF E) (hh:kN P ops.toList=some hs) (hd:ops.toList.drop k=o::rest) (hc:(TI o&&TH (ops.toList.take k)&&(ops.toList.all λo=>match o.dst with|some d=>decide (7<=d)|none=>true)&&aCr ops)=true) (hx:x.marked=true)
  (h:SQ P (eU E) fl ops (ops.toList.take k) fr (σ++hs) (FQ P E fl ops o v τ))
  (e1:∀n,DQ P (bV P (E.HU fl f x v τ) n) fl ops 0 σ.length ops.toList fr (σ++hs) F S) (e2:F.any PD.marked=true) (hQ:Q ⟨.panic v,fr,ms,τ⟩):Wp P E rd (.seq (.region id ops true) y) fl fr ms σ Q:=by
 simp only[yAr]at hc;obtain⟨⟨⟨c1,c2⟩,c3⟩,c4⟩:=hc;exact WL.aWE k f x hU hh hd c1 c2 c3 h hx ⟨F,S,λn=>aNn c4 hh (e1 n),e2⟩ hQ
end
end
section
section
variable{P:Program}{E:aE}{ops:Cb}{fl:Nat}
theorem aNm{bU:Nat}{σ σ':Bv}{t:TypeId}{s x p:PD}(h:dV P bU σ t s x=some (p,σ'))(hl:σ.length<=bU):dV P fl σ t s x=some (p,σ')/\σ++σ'.drop σ.length=σ':=by
 have same:σ++σ.drop σ.length=σ:=wz;have more:∀o:U,σ++(σ++[o]).drop σ.length=σ++[o]:=λo=>wz
 unfold dV at h ⊢;split at h
 .rename_i e he;split at h
  .rename_i i hi;split at h
   .rename_i z sz xs tok sz' ys bY hz;split at h
    .rename_i hc;simp only[he,hi,hz,yAJ hc];split at h
     .rename_i h0;simp only[yAb,yAc]at h;obtain⟨rfl,rfl⟩:=h;exact⟨by rw[yAJ h0],same⟩
     .rename_i h0;rw[yAI h0];split at h
      .exact ql
      .exact ql
      .rename_i id
       exfalso
       split at h
       .rename_i h1;rw[yBp xb]at h;cases h
       .cases h
      .cases h
    .cases h
   .cases h
  .cases h
 .cases h
theorem aY9{n:Nat}{σ:Bv}{t:TypeId}{s x:PD}(h:∀t,pE t n=false):mD P n fl σ t s x=none:=by
 unfold mD;rw[h t,yAI xl]
theorem aZa{n:Nat}{σ:Bv}{t:TypeId}{s:PD}{m:Int}(h:∀t,pE t n=false):LY P n σ t s m=none:=by
 unfold LY;split
 .rw[yAI (by rw[h t];simp)]
 .rfl
theorem aZb{bU:Nat}{fr:Bw}{σ σ':Bv}{op:Op}{p:PD}(ha:isApp op=true)(hn:∀t,pE t fr.length=false)(h:pop P bU fr σ op=some (p,σ'))(hl:σ.length<=bU):pop P fl fr σ op=some (p,σ')/\σ++σ'.drop σ.length=σ':=by
 cases op with
 |call c=>
  obtain⟨cal,args,ts⟩:=c;cases cal with
  |value v=>cases ha
  |invoke _ _=>cases ha
  |builtin b=>
   cases b<;>first|(cases ha;done)|skip
   unfold pop at h ⊢;simp only[dD,J6]at h ⊢;unfold cK at h ⊢;simp only[aY9 hn,aZa hn]at h ⊢;cases hp:iX fr args.toList with
   |none=>simp only[hp]at h;cases h
   |some ps=>
   simp only[hp]at h ⊢;split at h
   .rename_i s x t t' h1 h2;split at h
    .rename_i h3;rw[yAJ h3];exact aNm h hl
    .rename_i h3;rw[yAI h3];split at h
     .rename_i l h4
      try simp only[h4]
      split at h
      .rename_i h5;rw[yAJ h5];exact aNm h hl
      .cases h
     .cases h
     .cases h
   .cases h
 |_=>cases ha
theorem aZc{fr:Bw}{op:Op}(h:kM op=true):dI fr op=none:=by
 cases op<;>first|rfl|skip
 rename_i c;obtain⟨cal,args,ts⟩:=c;cases cal with
 |value v=>simp[kM,cW,dA,iW,eO,isApp]at h
 |builtin b=>rfl
 |invoke _ _=>simp[kM,cW,dA,iW,eO,isApp]at h
theorem aGG{call:cO}{n:Nat}{ms:List Nat}:∀(l:List Oper) (i k:Nat) (fr:List PD) (σ:List U) (y:List TE×Bw×List U),(∀o∈l,(cW o.op||dA o.op||bZ o.op||iW o.op||cX o.op)=true)->(l.all λo=>kM o.op)=true->(∀t,pE t fr.length=false) ->
  fY P (bV P E n) fl ops ms i k l fr σ=some y->dM P call fl ops l fr σ=some (y.2.1,y.2.2)
 | [],_,_,_,_,y,_,_,_,h=>by
   simp only[fY,yAb]at h;subst h;rfl
 |o::l,i,k,fr,σ,y,hsh,hk,hn,h=>by
  simp only[yBG,yAr]at hk;obtain⟨hko,hkl⟩:=hk;have hka:=(aCp hko).1;have hlen:∀p,∀t,pE t (aL fr o.dst p).length=false:=λp t=>by
   have:(aL fr o.dst p).length=fr.length:=by
    unfold aL;split<;>simp
   rw[this];exact hn t
  simp only[fY,dM]at h ⊢;split at h
  .rename_i hw;rw[yAJ hw];split at h
   .rename_i p σ1 hp;split at h
    .rename_i tr fr' tN hr;simp only[yAb]at h;subst h;have ih:=aGG (call:=call) l _ _ _ _ _ (λo ho=>hsh o (by simp[ho])) hkl (hlen _) hr;have hst:bI P call fl fr σ o.op=some (p,σ1):=by
      rw[QU (hsh o wz) hka]at hp;have hcal:∀fl (call:cO),bI P call fl fr σ o.op=pop P fl fr σ o.op:=λfl call=>by
       unfold bI;rw[aZc hko]
      split at hp
      .rw[hcal]at hp ⊢;exact hp
      .rename_i hm;have hmv:cI o.op=true:=by
        cases hx:cI o.op with
        |true=>rfl
        |false=>rw[hx]at hm;simp at hm
       split at hp
       .rename_i p1 σ2 hq;simp only[yAb,yAc]at hp;obtain⟨rfl,rfl⟩:=hp;rw[hcal]at hq ⊢;obtain⟨e1,e2⟩:=aZb (fl:=fl) ((aCp hko).2 hmv) hn hq (Nat.le_max_right _ _);rw[e2];exact e1
       .cases hp
     rw[hst];exact ih
    .cases h
   .cases h
  .rename_i hw;rw[yAI hw];split at h
   .rename_i tr fr' tN hr;simp only[yAb]at h;subst h;exact aGG (call:=call) l _ _ _ _ (tr,fr',tN) (λo ho=>hsh o (by simp[ho])) hkl (hlen _) hr
   .cases h
theorem Wp.aW9{rd:Option Nat}{ms:List Nat}{Q:PO->Prop}{id:Nat}{fr:Bw}{σ:Bv}(ρ:List (Nat×Nat))(B:List Nat)(L:List (Option Nat))(hs:(tO ops&&JP ops.toList&&QH ops&&ops.toList.all λo=>kM o.op)=true)(hn:∀t,pE t fr.length=false)(hbx:∀id∈B,∃b,σ[id]?=some (U.box b))
  (hρ:bW.UY fr ρ) (hL:TK ops.toList (bW.of ρ)=L) (hB:tX B L) (h:SQ P (DI E B) fl ops ops.toList fr σ (λfr' σ'=>Q ⟨.normal,fr',ms,σ'⟩)):Wp P E rd (.region id ops true) fl fr ms σ Q:=by
 obtain⟨fr',σ',h1,h2⟩:=h.ex;rw[yAr]at hs;obtain⟨hs1,hs2⟩:=hs;refine⟨_,.L0 (N:=0) (λn _=>?_),h2⟩;cases hd:mA P (bV P E n) fl ops fr σ with
 |none=>exact aGH ρ B hs1 hbx hd (bW.aCq ρ hρ) hL hB h1
 |some y=>
  unfold pG;rw[hd];simp only;have h3:=hs1;simp only[yAr,tO]at h3;obtain⟨⟨a1,a2⟩,_⟩:=h3;rw[nP]at a1;unfold mA at hd;simp only[a1,yAM,UZ a2,yAl]at hd;split at hd
  .rename_i tr vP σ2 hr;split at hd
   .simp only[yAb]at hd;subst hd;have:=aGG (call:=DI E B) ops.toList _ _ _ _ _ (λo ho=>by
     obtain⟨i,hi⟩:=yCF ho;exact(JY a1).shape i o Ae) hs2 hn hr
    rw[h1]at this;simp only[yAb,yAc]at this;rw[this.1,this.2]
   .cases hd
  .cases hd
end
theorem jF.sub{aR σ:Bv}{r:PD}{l:List Tk}{n:Nat}{K K':List (Nat×U)}(h:jF aR r l σ n K)(hs:∀p∈K',p∈K):jF aR r l σ n K':=
 ⟨h.rd,h.le,h.kp,h.len,λp hp=>h.ks p (hs p hp),h.rn,h.pos⟩
end
section
def RdC(E:aE):Prop:=∃g,E.ret 86=some g/\∀σ l,l.length<=100000->∃id σ',g 0 [cM.aA l] σ=some (.ptr id 0,σ')/\σ.length<=id/\Rd σ' (.ptr id 0) l 0/\σ.length<=σ'.length/\σ'≠[]/\∀(j:Nat) (q:U),σ[j]?=some q->σ'[j]?=some q
theorem jF.start{aR σ σ':Bv}{id:Nat}{l:List Tk}{K:List (Nat×U)}(h1:Rd σ' (.ptr id 0) l 0)(h2:σ.length<=id)(h3:∀(j:Nat) (q:U),σ[j]?=some q->σ'[j]?=some q)(h4:aR.length<=σ.length)(h5:∀(j:Nat) (q:U),aR[j]?=some q->σ[j]?=some q)(h6:∀p∈K,σ[p.1]?=some p.2/\aR.length<=p.1)(h7:σ.length<=σ'.length)(h8:σ'≠[]):jF aR (.ptr id 0) l σ' 0 K:=
 ⟨h1,yAF _,λj q h=>h3 j q (h5 j q h),xb,λp hp=>⟨h3 _ _ (h6 p hp).1,(h6 p hp).2,λe=>by
  simp only[PD.ptr.injEq,yAW]at e;have:=(yA.1 (h6 p hp).1).1;omega⟩,λj o h e=>by
  simp only[PD.ptr.injEq,yAW]at e;have:=(yA.1 h).1;omega,h8⟩
variable{E:aE}(hU:aF E)
include hU
set_option maxRecDepth 10000
end
section
variable{E:aE}(hU:aF E)
include hU
set_option maxRecDepth 10000
theorem aWL(τ:List U)(i:Nat)(cs:List PD)(hc:cs.length=4)(hp:cs.all PD.plain=true)(h:τ[i]?=some (.box (.agg cs))):j8 prog τ 42 (.ptr i 0)=some (.agg cs):=by
 match cs,hc with
 | [a,b,c,d],_=>simp[j8,h]
end
end Go.Kz
