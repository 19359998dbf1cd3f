/- Steps of the proof. -/
import Derived.Test.YtnogdlnjafblaaaGreatDoorH2
import Derived.Below
import Derived.OpenShut
import Derived.FnData
import Derived.MakeChecks
import Derived.ProofKit
import Derived.LaidMore
import Derived.Stop.Joined
import Derived.ChangeArms
import Derived.DataReads
import Derived.Test.YtnogdlnjafblaaaGreatDoorProg
import Derived.KernelRfl
import Derived.Handed
import Derived.SizedLaws
import Derived.Lib.Overlaps
import Derived.Lib.AppendZerosOnto
import Derived.RecoverIn
set_option linter.all false
set_option maxHeartbeats 40000000
set_option maxRecDepth 100000
open Go.Proofs.Tryz
noncomputable section
namespace Go.Kz
section
open Go.RowKit
def Cx.start(w:World):Cx:={ w:=w,ρ:=λ_=>undef,σ:=[],D:=λ_=>False,X:=λ_=>True }
theorem Sr.start{w:World}(hg:Gl (.start w)):Sr (.start w) where
 box:=λ_ _ h=>h.elim
 own:=λ_ _ _ _ h=>h.elim
 row:=λ_ _ _ _ _ h=>h.elim
 map:=λ_ _ h=>h.elim
 mark:=λ_ h=>h.elim
 loop:=λ_ _ _ _ _ _ h=>h.elim
 inj:=λ_ _ _ h=>h.elim
 lt:=λ_ _ h=>h.elim
 aZ:=λ_ h=>h.elim
 fresh:=λ_ _=>trivial
 iG:=hg
theorem aJA{w:World}(a:Addr):(Cx.start w).av a:=⟨trivial,λ_ _ h=>h.elim⟩
theorem aSD{P:Program}(hN:∀(f:FuncId) fn,P.funcs[f]?=some fn->(fn.name== "runtime.NumGoroutine")=false):Open Fence.wide P:=⟨λ_=>trivial,rfl,hN,rfl⟩
theorem aSE{P:Program}{E:aE}(hE:aF P E)(hP:P.follows .mixedOrders=true)(hN:∀(f:FuncId) fn,P.funcs[f]?=some fn->(fn.name== "runtime.NumGoroutine")=false)
  {n:Nat} {f:FuncId} {args:Dq} {vs:Ds} {w:World} {p:PD} {σ':Dp} (h:cD P E n 0 (.inl f) args []=some (p,σ')) (hg:Gl (.start w)) (hv:aK (.start w) vs args) :
  Calls P f vs.toArray w λe w'=>∃v c',e=.returned v/\c'.w=w'/\VR c' v p/\Nx 0 (.start w) c'/\Below w.heap.size w w':=by
 have:=((UH hE hP (aSD hN) n).fn (c:=.start w) (fl:=0) h (.start hg) (λ_ _ h=>h.elim) hv).2 0;refine yBp (callsIn_wide.1 this) λe w' he=>?_
 cases e with
 |returned v=>
  obtain⟨c',e1,_,_,nx,hvv,_⟩:=he;refine⟨v,c',rfl,e1,hvv,nx,?_⟩;subst e1;exact⟨nx.os,nx.tape,nx.output,nx.size,λk hk=>nx.frame k hk (λ_ h=>h.elim)⟩
 |panicked ch=>exact he.elim
 |outgrown=>exact he.elim
theorem aSn{P:Program}{E:aE}(hE:aF P E)(hP:P.follows .mixedOrders=true)(hN:∀(f:FuncId) fn,P.funcs[f]?=some fn->(fn.name== "runtime.NumGoroutine")=false)
  {n:Nat} {f:FuncId} {args:Dq} {vs:Ds} {w:World} {b:Bool} {σ':Dp} (h:cD P E n 0 (.inl f) args []=some (.bool b,σ')) (hg:Gl (.start w)) (hv:aK (.start w) vs args) :
  Calls P f vs.toArray w λe w'=>e=.returned (.bool b)/\Below w.heap.size w w':=by
 refine yBp (aSE hE hP hN h hg hv) λe w' ⟨v,c',h1,h2,h3,h4,h5⟩=>?_
 rw[h3.OY]at h1;exact⟨h1,h5⟩
end
section
open Go.RowKit
end
section
section
variable{P:Program}{E:aE}{rd:Option Nat}{fl:Nat}{fr:Dq}{ms:List Nat}{σ:Dp}{r:PO}
def Ev(P:Program)(E:aE)(rd:Option Nat)(c:Code)(fl:Nat)(fr:List PD)(ms:List Nat)(σ:List U)(r:PO):Prop:=∃N,∀n,N<=n->gP P E n rd c fl fr ms σ=some r
def mB(P:Program)(E:aE)(fl:Nat)(f:FuncId ⊕ Nat)(args:List PD)(σ:List U)(p:PD)(σ':List U):Prop:=∃N,∀n,N<=n->cD P E n fl f args σ=some (p,σ')
theorem Ev.step{c:Code}{N:Nat}(h:∀n,N<=n->gP P E (n+1) rd c fl fr ms σ=some r):Ev P E rd c fl fr ms σ r:=
 ⟨N+1,λn hn=>by obtain⟨m,rfl⟩:∃m,n=m+1:=⟨n-1,ym⟩;exact h m ym⟩
theorem Ev.skip:Ev P E rd .skip fl fr ms σ ⟨.normal,fr,ms,σ⟩:=.step (N:=0) λ_ _=>rfl
theorem Ev.ret:Ev P E rd .ret fl fr ms σ ⟨.ret,fr,ms,σ⟩:=.step (N:=0) λ_ _=>rfl
theorem Ev.exit{id:Nat}:Ev P E rd (.exit id) fl fr ms σ ⟨.exit id,fr,ms,σ⟩:=.step (N:=0) λ_ _=>rfl
theorem Ev.seq{x y:Code}{aH:Dq}{ms1:List Nat}{σ1:Dp}(h:Ev P E rd x fl fr ms σ ⟨.normal,aH,ms1,σ1⟩)(k:Ev P E rd y fl aH ms1 σ1 r):Ev P E rd (.seq x y) fl fr ms σ r:=by
 exact lf
theorem Ev.aEK{x y:Code}(h:Ev P E rd x fl fr ms σ r)(hr:r.x≠.normal):Ev P E rd (.seq x y) fl fr ms σ r:=by
 exact ju
theorem Ev.cond{g:Operand}{x y:Code}{b:Bool}(hg:aT fr g=some (.bool b))(h:Ev P E rd (if b then x else y) fl fr ms σ r):Ev P E rd (.cond g x y) fl fr ms σ r:=by
 obtain⟨N,h⟩:=h;exact .step (N:=N) λn hn=>by
  simp only[gP,hg];cases b<;>exact h n hn
theorem Ev.block{id:Nat}{b:Code}{aH:Dq}{ms1:List Nat}{σ1:Dp}{k:Nat}(h:Ev P E rd b fl fr ms σ ⟨.exit k,aH,ms1,σ1⟩):Ev P E rd (.block id b) fl fr ms σ ⟨if k=id then .normal else .exit k,aH,ms1,σ1⟩:=by
 obtain⟨N,h⟩:=h;exact .step (N:=N) λn hn=>by simp only[gP,h n hn]
theorem Ev.aEL{id:Nat}{b:Code}(h:Ev P E rd b fl fr ms σ r)(hr:∀k,r.x≠.exit k):Ev P E rd (.block id b) fl fr ms σ r:=by
 obtain⟨N,h⟩:=h;exact .step (N:=N) λn hn=>by
  simp only[gP,h n hn];obtain⟨x,a,b,c⟩:=r;cases x<;>first|exact absurd rfl (hr _)|rfl
theorem Ev.loop{b:Code}{aH:Dq}{ms1:List Nat}{σ1:Dp}(h:Ev P E rd b fl fr ms σ ⟨.normal,aH,ms1,σ1⟩)(k:Ev P E rd (.loop b) fl aH ms1 σ1 r):Ev P E rd (.loop b) fl fr ms σ r:=by
 exact lf
theorem Ev.aEM{b:Code}(h:Ev P E rd b fl fr ms σ r)(hr:r.x≠.normal):Ev P E rd (.loop b) fl fr ms σ r:=by
 exact ju
theorem Ev.region{id:Nat}{ops:Du}{aH:Dq}{σ1:Dp}{N:Nat}(h:∀n,N<=n->dS P (cD P E n) fl ops ops.toList fr σ=some (aH,σ1)):Ev P E rd (.region id ops false) fl fr ms σ ⟨.normal,aH,ms,σ1⟩:=
 .step (N:=N) λn hn=>by
  have:=h n hn;unfold cD at this;simp only[gP,OW,this]
theorem Ev.aSC{id:Nat}{ops:Du}{v:Value}{aH:Dq}{σ1:Dp}{N:Nat}(h:∀n,N<=n->OW P (cD P E n) fl ops fr σ=none/\EV P E (cD P E n) fl ops ops.toList fr σ=some (v,aH,σ1)):Ev P E rd (.region id ops false) fl fr ms σ ⟨.panic v,aH,ms,σ1⟩:=
 .step (N:=N) λn hn=>by
  have:=h n hn;unfold cD at this;simp only[gP,this.1,this.2]
theorem Ev.OX{id:Nat}{ops:Du}{aH:Dq}{σ1:Dp}{N:Nat}(h:∀n,N<=n->iO P (cD P E n) fl ops fr σ=some (aH,σ1)):Ev P E rd (.region id ops true) fl fr ms σ ⟨.normal,aH,ms,σ1⟩:=
 .step (N:=N) λn hn=>by
  have:=h n hn;unfold cD at this;simp only[gP,this]
theorem Ev.draw{id:Nat}{ops:Du}{aH:Dq}{σ1:Dp}{N:Nat}(h:∀n,N<=n->kX P (cD P E n) fl ops fr σ=some (aH,σ1)):Ev P E rd (.region id ops true) fl fr ms σ ⟨.normal,aH,ms,σ1⟩:=
 .OX (N:=N) λn hn=>by unfold iO;rw[h n hn]
theorem mB.body{f:FuncId}{fn:Func}{c:Code}{args:Dq}{p:PD}{σ':Dp}(hE:E f=none)(hf:P.funcs[f]?=some fn)(hb:fn.body=some c)
  (h:Ev P E none c fl (args++List.replicate (fn.ntmps-args.length) (.aI [])) [] σ r) (hr:sX P fl fn r=some (p,σ')):mB P E fl (.inl f) args σ p σ':=by
 obtain⟨N,h⟩:=h;exact⟨N,λn hn=>by simp only[cD,oI,hE,UI,hf,hb,h n hn,hr]⟩
end
def aE.add(E:aE)(f:FuncId)(g:Nat->List PD->List U->Option (PD×List U)):aE:={ ret:=λf'=>if f'=f then some g else E.ret f',bD:=E.bD }
theorem aE.o3{E:aE}{f f':FuncId}{g:Dj}:(E.add f g).ret f'=if f'=f then some g else E.ret f':=rfl
theorem aE.add_same{E:aE}{f:FuncId}{g:Dj}:(E.add f g).ret f=some g:=yAJ rfl
def aE.UJ(E:aE)(f:FuncId)(q:Nat->List PD->List U->Option (Value×List U)):aE:={ ret:=E.ret,bD:=λf'=>if f'=f then some q else E.bD f' }
theorem aF.add{P:Program}{E:aE}(hE:aF P E)(hP:P.follows .mixedOrders=true){f:FuncId}{g:Dj}
  (h:∀fl args σ p σ',g fl args σ=some (p,σ')->mB P E fl (.inl f) args σ p σ'):aF P (E.add f g):=by
 refine⟨fun {F fl f' g' args c vs p σ'} hF hg hgo hs hX hv=>?_,hE.bD⟩;rw[aE.o3]at hg;split at hg
 .rename_i e;subst e;simp only[yAb]at hg;subst hg;obtain⟨N,hN⟩:=h fl args c.σ p σ' hgo;exact(UH hE hP hF N).fn (hN N (yAk _)) hs hX hv
 .exact fh
end
section
def EN(ops:Array Oper)(i:Nat):Bool:=gH ops.toList (bU ops.toList []) i
def nM(P:Program)(call:b9)(fl:Nat)(ops:Array Oper):List (Bool×Oper)->List PD->List U->Option (List PD×List U)
 | [],fr,σ=>some (fr,σ)
 |(free,o)::rest,fr,σ=>
  if Region.wanted o (bA ops fr)then
   match free with
   |true=>match bK P call fl fr σ o.op with
    |some (p,σ')=>nM P call fl ops rest (aM fr o.dst p) σ'
    |none=>none
   |false=>match bK P call (max fl σ.length) fr σ o.op with
    |some (p,σ')=>nM P call fl ops rest (aM fr o.dst p) (σ++σ'.drop σ.length)
    |none=>none
  else nM P call fl ops rest (aM fr o.dst (.aI [])) σ
def flags(ops:Array Oper)(i:Nat):List Oper->List (Bool×Oper)
 | []=>[]
 |o::r=>(!cR o.op||EN ops i,o)::flags ops (i+1) r
def UB(ops:Array Oper):Bool:=
 EM ops (bU ops.toList [])&&ops.toList.all (λo=>!bT o.op) &&
 (List.range ops.size).all λk=>!eL eU ops.toList k||(List.range ops.size).all λi=>!eL dE ops.toList i||!loose (bU ops.toList []) i k
section
variable{P:Program}{call:b9}{fl:Nat}{ops:Du}
theorem aJx{fr:Dq}{σ:Dp}{op:Op}(h:dF op=true):cO P fl fr σ op=none:=by
 cases op<;>first|rfl|(simp[dF]at h;done)|(rename_i s d x;simp only[dF,yBu]at h;simp only[cO,h,yAx,yAO];done)|skip
 rename_i c;obtain⟨callee,args,ts⟩:=c;cases callee with
 |value f=>simp[dF]at h
 |invoke r m=>simp[dF]at h
 |builtin b=>cases b<;>first|rfl|(simp[dF]at h)
theorem T3{k:Nat}{free:Bool}{fr:Dq}{σ:Dp}{op:Op}(hs:(dF op||dE op||bT op||jO op||dJ op)=true)(ha:bT op=false) :
  eF P call fl free k fr σ op=(match (!cR op||free)with
   |true=>bK P call fl fr σ op
   |false=>match bK P call (max fl σ.length) fr σ op with
    |some (p,σ')=>some (p,σ++σ'.drop σ.length)
    |none=>none):=by
 unfold eF
 by_cases hA:dF op=true
 .obtain⟨hpc,_,hW,_⟩:=aJM (fr:=fr) hA;have hM:cR op=false:=by simp[dJ]at hW;exact hW.2
  rw[yAJ hA,hM];simp only[yBW,yCY];unfold bK pop;rw[hpc];simp only;cases hp:dB P fr op with
  |some p=>rfl
  |none=>
   simp only;rw[aJx hA]
 .simp only[yBZ]at hA;rw[hA,ha];simp only[yAx,yAO]
  by_cases hM:cR op=true
  .rw[hM];cases free with
   |true=>simp
   |false=>
    simp only[yBW,yCb,yAM,yBH,yCZ];cases bK P call (max fl σ.length) fr σ op<;>rfl
  .simp only[yBZ]at hM;rw[hM];simp only[yCh,yAx,yAO,yBW,yCY];have h3:dE op=true\/jO op=true\/eU op=true:=by
    simp only[hA,ha,dJ,hM,yC,yCZ,yBi]at hs;rcases hs with(h|h)|h
    .exact .inl h
    .exact .inr (.inl h)
    .exact .inr (.inr h)
   obtain⟨hv,hp,_⟩:=YW (P:=P) (fr:=fr) h3;unfold bK pop;rw[hp,hv]
theorem aJG(h:UB ops=true)(fr:List PD)(σ:List U):kX P call fl ops fr σ=nM P call fl ops (flags ops 0 ops.toList) fr σ:=by
 simp only[UB,yAr]at h;obtain⟨⟨hreg,hall⟩,hfeet⟩:=h;have hr:=MK hreg;have hna:∀(l:List Oper),l.all (λo=>!bT o.op)=true->j6 P l=some []:=by
  intro l
  induction l with
  |nil=>intro _;rfl
  |cons o l ih=>
   intro hl;simp only[yBK,yAr,yBu]at hl;unfold j6;split
   .rename_i t ht;rw[ht]at hl;simp[bT]at hl
   .exact ih hl.2
 have key:∀(l:List Oper) (i k:Nat) (fr:List PD) (σ:List U),ops.toList.drop i=l ->
   (match eM P call fl ops (bU ops.toList []) i k l fr σ with|some (_,fr',σ')=>some (fr',σ')|none=>none)=nM P call fl ops (flags ops i l) fr σ:=by
  intro l
  induction l with
  |nil=>intro i k fr σ _;rfl
  |cons o rest ih=>
   intro i k fr σ hdrop;have ho:ops[i]?=some o:=by
    exact vu
   have xV:ops.toList.drop (i+1)=rest:=by rw[<-yBq,hdrop];rfl
   have hal:bT o.op=false:=by
    have:=yAn.1 hall o (yBV.2 (yCX ho));exact bp
   simp only[eM,flags,nM];cases hw:Region.wanted o (bA ops fr)with
   |true=>
    simp only[yAM];rw[T3 (hr.shape i o ho) hal];simp only[EN];cases(!cR o.op||gH ops.toList (bU ops.toList []) i)with
    |true=>
     simp only;cases hp:bK P call fl fr σ o.op with
     |none=>rfl
     |some q=>
      obtain⟨p,σ'⟩:=q;simp only;rw[<-ih (i+1) (if bT o.op=true then k+1 else k) (aM fr o.dst p) σ' xV];cases eM P call fl ops (bU ops.toList []) (i+1) (if bT o.op=true then k+1 else k) rest (aM fr o.dst p) σ'<;>rfl
    |false=>
     simp only;cases hp:bK P call (max fl σ.length) fr σ o.op with
     |none=>rfl
     |some q=>
      obtain⟨p,σ'⟩:=q;simp only;rw[<-ih (i+1) (if bT o.op=true then k+1 else k) (aM fr o.dst p) _ xV];cases eM P call fl ops (bU ops.toList []) (i+1) (if bT o.op=true then k+1 else k) rest (aM fr o.dst p) (σ++σ'.drop σ.length)<;>rfl
   |false=>
    simp only[yAx,yAO];rw[<-ih (i+1) (if bT o.op=true then k+1 else k) (aM fr o.dst (.aI [])) σ xV];cases eM P call fl ops (bU ops.toList []) (i+1) (if bT o.op=true then k+1 else k) rest (aM fr o.dst (.aI [])) σ<;>rfl
 unfold kX;simp only[hreg,yAM,hna _ hall,yAl];rw[<-key ops.toList 0 σ.length fr σ yo];split
 .rename_i tr fr' σ' hops;have hfo:qP ops.toList (bU ops.toList []) tr=true:=by
   simp only[qP,yAn,yAY];simp only[yAn,yAY]at hfeet;intro k hk;have h1:=hfeet k Bw;cases hs:eL eU ops.toList k with
   |false=>simp
   |true=>
    rw[hs]at h1;simp only[yBH,yC,yAn,yAY]at h1 ⊢;intro i hi;have h2:=h1 i Bo;simp only[yBi]at h2 ⊢;exact .inl h2
  rw[hfo,hops];rfl
 .rename_i hops;rw[hops]
end
end
def Cx.bare(c:Cx):Cx:={ w:=c.w,ρ:=λ_=>undef,σ:=[],D:=λ_=>False,X:=c.av }
theorem aJK{c:Cx}(hs:Sr c){a:Addr}(h:c.w.heap.size<=a.block):c.av a:=by
 exact cj
theorem aBS{c:Cx}(a:Addr):c.bare.av a↔c.av a:=⟨λh=>h.1,λh=>⟨h,λ_ _ hd=>hd.elim⟩⟩
theorem aJL{g:Nat}{ds:Dq}(h:MH g=some ds):PD.eV ds=true:=by
 unfold MH at h;split at h
 .simp only[yAb]at h;subst h;rw[PD.G2];simp only[yAn,yAw]
  rintro x ⟨y,_,rfl⟩
  simp[PD.bW]
 .exact ah
theorem Sr.bare{c:Cx}(hs:Sr c):Sr c.bare where
 box:=λ_ _ h=>h.elim
 own:=λ_ _ _ _ h=>h.elim
 row:=λ_ _ _ _ _ h=>h.elim
 map:=λ_ _ h=>h.elim
 mark:=λ_ h=>h.elim
 loop:=λ_ _ _ _ _ _ h=>h.elim
 inj:=λ_ _ _ h=>h.elim
 lt:=λ_ _ h=>h.elim
 aZ:=λ_ h=>h.elim
 fresh:=λ_ h=>aJK hs h
 iG:=⟨λg ds e=>(hs.iG.1 g ds e).free (λa v h1 h2=>⟨(aBS a).2 h1,h2⟩) (by simpa [PD.bW]using aJL e),λg hh=>⟨(hs.iG.2 g hh).1,λ_ h=>h.elim⟩⟩
theorem aF.OV{P:Program}{E:aE}(hE:aF P E)(hP:P.follows .mixedOrders=true){f:FuncId}{g:List PD->Option PD}
  (h:∀args p,g args=some p->∃p1 σ1,mB P E 0 (.inl f) (args.map PD.strip) [] p1 σ1/\p1.strip=p/\PD.eV (args.map PD.strip)=true/\p.bW=true) :
  aF P (E.add f (λ_ args σ=>match g args with|some p=>some (p,σ)|none=>none)):=by
 refine⟨fun {F fl f' g' args c vs p σ'} hF hg hgo hs hX hv=>?_,hE.bD⟩;rw[aE.o3]at hg;split at hg
 .rename_i e;subst e;simp only[yAb]at hg;subst hg;cases hga:g args with
  |none=>simp only[hga]at hgo;cases hgo
  |some q=>
   simp only[hga,yAb,yAc]at hgo;obtain⟨rfl,rfl⟩:=hgo;obtain⟨p1,σ1,⟨N,hN⟩,e1,e2,e3⟩:=h args q hga;have fQ:aK c.bare vs (args.map PD.strip):=hv.strip.free (λa v h1 h2=>⟨(aBS a).2 h1,h2⟩) e2;have:=(UH hE hP hF N).fn (c:=c.bare) (hN N (yAk _)) hs.bare (λ_ _ h=>h.elim) fQ;exact ay
 .exact fh
section
structure Em (α:Type) where
 aA:α->PD
 inj:∀ {x y},aA x=aA y->x=y
 str:∀x,(aA x).strip=aA x
 eC:∀x,(aA x).bW=true
structure bJ (α:Type) where
 cells:α->Dq
 len:Nat
 hlen:∀x,(cells x).length=len
 inj:∀ {x y},cells x=cells y->x=y
 str:∀x,(cells x).map PD.strip=cells x
 eC:∀x,(cells x).all PD.bW=true
section
variable{α β γ δ:Type}
open Classical in
def Em.dec(e:Em α)(p:PD):Option α:=if h:∃x,p.strip=e.aA x then some h.choose else none
theorem Em.cJ{e:Em α}{p:PD}{x:α}(h:p.strip=e.aA x):e.dec p=some x:=by
 have hx:∃x,p.strip=e.aA x:=⟨x,h⟩;unfold Em.dec;rw[dif_pos hx];exact yAP some (e.inj (hx.choose_spec.symm.trans h))
theorem Em.sT{e:Em α}{p:PD}{x:α}(h:e.dec p=some x):p.strip=e.aA x:=by
 unfold Em.dec at h;split at h
 .rename_i hx;simp only[yAb]at h;subst h;exact hx.choose_spec
 .cases h
@[simp] theorem Em.OU{e:Em α}{x:α}:e.dec (e.aA x)=some x:=Em.cJ (e.str x)
def Em.int(k:IntKind):Em Int:=⟨PD.int k,λh=>zw,λ_=>Ca,λ_=>by simp[PD.bW]⟩
def Em.bool:Em Bool:=⟨PD.bool,λh=>zw,λ_=>Ca,λ_=>by simp[PD.bW]⟩
def Em.text:Em (List UInt8):=⟨PD.str,λh=>zw,λ_=>Ca,λ_=>by simp[PD.bW]⟩
def Em.unit:Em Unit:=⟨λ_=>.aI [],λ_=>rfl,λ_=>by simp[PD.strip,PD.lP],λ_=>by simp[PD.bW,PD.eV]⟩
def sz(k:Nat)(xs:List α):Nat:=if xs.length=0 then 0 else k
@[simp] theorem a7e{k:Nat}{xs:List α}:(xs=[]\/k=sz k xs)=True:=by
  cases xs<;>simp[sz]
theorem T6{k:Nat}{xs:List α}(h:xs≠[]):sz k xs=k:=by
 cases xs<;>simp[sz]at *
theorem aJJ{f:α->β}(hf:∀x y,f x=f y->x=y):∀(xs ys:List α),xs.map f=ys.map f->xs=ys
 | [],[],_=>rfl
 | [],_::_,h=>Aa
 |_::_,[],h=>Aa
 |x::xs,y::ys,h=>by
  simp only[yAX,yBx]at h;rw[hf x y h.1,aJJ hf xs ys h.2]
theorem aSy{z k:Nat}{xs:List α}(h:xs=[]\/z=k):sz z xs=sz k xs:=by
 rcases h with rfl|rfl
 .rfl
 .rfl
def Em.list(e:Em α)(k:Nat):Em (List α) where
 aA:=λxs=>.slice (sz k xs) (xs.map e.aA) .any
 inj:=fun {x y} h=>by
  simp only[PD.slice.injEq,yAV]at h;exact aJJ (λ_ _ h=>e.inj h) x y h.2
 str:=λxs=>by
  rw[PD.lD];have:(xs.map e.aA).map PD.strip=xs.map e.aA:=by
   rw[yBc];exact yAG λx _=>e.str x
  rw[this];cases xs<;>simp[sz]
 eC:=λxs=>by
  simp only[PD.bW,PD.G2,yCg,List.all_map];exact yAn.2 λx _=>e.eC x
def Em.iH(a:Em α)(b:Em β):Em (α×β) where
 aA:=λx=>.aI [a.aA x.1,b.aA x.2]
 inj:=fun {x y} h=>by
  simp only[PD.aI.injEq,yBx,yAV]at h;exact yCx (a.inj h.1) (b.inj h.2)
 str:=λx=>by simp[PD.strip,PD.lP,a.str,b.str]
 eC:=λx=>by simp[PD.bW,PD.eV,a.eC,b.eC]
def Em.MW(a:Em α)(b:Em β)(c:Em γ):Em (α×β×γ) where
 aA:=λx=>.aI [a.aA x.1,b.aA x.2.1,c.aA x.2.2]
 inj:=fun {x y} h=>by
  simp only[PD.aI.injEq,yBx,yAV]at h;exact yCx (a.inj h.1) (yCx (b.inj h.2.1) (c.inj h.2.2))
 str:=λx=>by simp[PD.strip,PD.lP,a.str,b.str,c.str]
 eC:=λx=>by simp[PD.bW,PD.eV,a.eC,b.eC,c.eC]
def Em.aSz(a:Em α)(b:Em β)(c:Em γ)(d:Em δ):Em (α×β×γ×δ) where
 aA:=λx=>.aI [a.aA x.1,b.aA x.2.1,c.aA x.2.2.1,d.aA x.2.2.2]
 inj:=fun {x y} h=>by
  simp only[PD.aI.injEq,yBx,yAV]at h;exact yCx (a.inj h.1) (yCx (b.inj h.2.1) (yCx (c.inj h.2.2.1) (d.inj h.2.2.2)))
 str:=λx=>by simp[PD.strip,PD.lP,a.str,b.str,c.str,d.str]
 eC:=λx=>by simp[PD.bW,PD.eV,a.eC,b.eC,c.eC,d.eC]
def bJ.one(e:Em α):bJ α where
 cells:=λx=>[e.aA x]
 len:=1
 hlen:=λ_=>rfl
 inj:=λh=>e.inj zw
 str:=λx=>by simp[e.str]
 eC:=λx=>by simp[e.eC]
def bJ.pair(a:bJ α)(b:bJ β):bJ (α×β) where
 cells:=λx=>a.cells x.1++b.cells x.2
 len:=a.len+b.len
 hlen:=λ_=>by simp[a.hlen,b.hlen]
 inj:=fun {x y} h=>by
  have:=List.append_inj h (by simp[a.hlen]);exact yCx (a.inj this.1) (b.inj this.2)
 str:=λ_=>by simp only[yAH,a.str,b.str]
 eC:=λ_=>by simp only[yDs,a.eC,b.eC,yCb]
def bJ.nQ(a:bJ β)(f:α->β)(hf:∀x y,f x=f y->x=y):bJ α where
 cells:=λx=>a.cells (f x)
 len:=a.len
 hlen:=λx=>a.hlen _
 inj:=λh=>hf _ _ (a.inj h)
 str:=λx=>a.str _
 eC:=λx=>a.eC _
def Em.agg(a:bJ α):Em α where
 aA:=λx=>.agg (a.cells x)
 inj:=λh=>a.inj zw
 str:=λ_=>by simp only[PD.strip,PD.OQ,a.str]
 eC:=λ_=>by simp only[PD.bW,PD.G2,a.eC]
def Em.nQ(a:Em β)(f:α->β)(hf:∀x y,f x=f y->x=y):Em α where
 aA:=λx=>a.aA (f x)
 inj:=λh=>hf _ _ (a.inj h)
 str:=λx=>a.str _
 eC:=λx=>a.eC _
@[simp] theorem a7f{k:IntKind}{n:Int}:(Em.int k).aA n=.int k n:=rfl
@[simp] theorem a7g{b:Bool}:Em.bool.aA b=.bool b:=rfl
@[simp] theorem a7h{s:Dr}:Em.text.aA s=.str s:=rfl
@[simp] theorem a7i{u:Unit}:Em.unit.aA u=.aI []:=rfl
@[simp] theorem eN{e:Em α}{k:Nat}{xs:List α}:(e.list k).aA xs=.slice (sz k xs) (xs.map e.aA) .any:=rfl
@[simp] theorem a7j{a:Em α}{b:Em β}{x:α×β}:(a.iH b).aA x=.aI [a.aA x.1,b.aA x.2]:=rfl
@[simp] theorem a7k{a:Em α}{b:Em β}{c:Em γ}{x:α×β×γ}:(a.MW b c).aA x=.aI [a.aA x.1,b.aA x.2.1,c.aA x.2.2]:=rfl
@[simp] theorem a7l{a:Em α}{b:Em β}{c:Em γ}{d:Em δ}{x:α×β×γ×δ}:(a.aSz b c d).aA x=.aI [a.aA x.1,b.aA x.2.1,c.aA x.2.2.1,d.aA x.2.2.2]:=rfl
@[simp] theorem a7m{k:IntKind}{n:Int}:(Em.int k).dec (.int k n)=some n:=Em.cJ Ca
@[simp] theorem a7n{s:Dr}:Em.text.dec (.str s)=some s:=Em.cJ Ca
theorem aSA{e:Em α}{k s:Nat}{xs:List α}{tok:Tok}(h:xs=[]\/s=k):(e.list k).dec (.slice s (xs.map e.aA) tok)=some xs:=by
 refine Em.cJ ?_;cases xs with
 |nil=>simp[PD.lD,sz]
 |cons x xs=>
  have h:s=k:=zw;subst h;simp only[yAX,PD.lD,yAK,Nat.add_one_ne_zero,yAO,e.str,yBc,eN,sz]
  congr 2
  exact yAG λx _=>e.str x
@[simp] theorem aSB{e:Em α}{k:Nat}{xs:List α}{tok:Tok}:(e.list k).dec (.slice k (xs.map e.aA) tok)=some xs:=aSA yo
open Classical in
def bE(c:Prop)(x:Option α):Option α:=if c then x else none
@[simp] theorem dC{c:Prop}{x:Option α}(h:c):bE c x=x:=yAJ h
theorem cX{c:Prop}{x:Option α}{y:α}(h:bE c x=some y):c/\x=some y:=by
 unfold bE at h;split at h
 .exact⟨‹_›,h⟩
 .cases h
def UF(r:Em β)(F:Option β):List PD->Option PD
 | []=>match F with|some z=>some (r.aA z)|none=>none
 |_=>none
def aY(a:Em α)(r:Em β)(F:α->Option β):List PD->Option PD
 | [p]=>match a.dec p with
   |some x=>match F x with|some z=>some (r.aA z)|none=>none
   |none=>none
 |_=>none
def cU(a:Em α)(b:Em β)(r:Em γ)(F:α->β->Option γ):List PD->Option PD
 | [p,q]=>match a.dec p,b.dec q with
   |some x,some y=>match F x y with|some z=>some (r.aA z)|none=>none
   |_,_=>none
 |_=>none
def UG(a:Em α)(b:Em β)(c:Em γ)(r:Em δ)(F:α->β->γ->Option δ):List PD->Option PD
 | [p,q,s]=>match a.dec p,b.dec q,c.dec s with
   |some x,some y,some u=>match F x y u with|some z=>some (r.aA z)|none=>none
   |_,_,_=>none
 |_=>none
def entry(g:List PD->Option PD):Nat->List PD->List U->Option (PD×List U):=λ_ args σ=>match g args with|some p=>some (p,σ)|none=>none
variable{P:Program}{E:aE}{f:FuncId}
def aJ(P:Program)(E:aE)(f:FuncId)(args:List PD)(p:PD):Prop:=∃p1 σ1,mB P E 0 (.inl f) args [] p1 σ1/\p1.strip=p
theorem aF.iD(hE:aF P E)(hP:P.follows .mixedOrders=true){a:Em α}{r:Em β}{F:α->Option β}(h:∀x z,F x=some z->aJ P E f [a.aA x] (r.aA z)):aF P (E.add f (entry (aY a r F))):=by
 refine hE.OV hP λargs p hg=>?_
 match args,hg with
 | [q],hg=>
   simp only[aY]at hg;split at hg
   .rename_i x hx;split at hg
    .rename_i z hz;simp only[yAb]at hg;subst hg;obtain⟨p1,σ1,e1,e2⟩:=h x z hz;have:=Em.sT hx;exact⟨p1,σ1,by simpa [this]using e1,e2,by simp[this,PD.eV,a.eC],r.eC z⟩
    .cases hg
   .cases hg
theorem aF.xU(hE:aF P E)(hP:P.follows .mixedOrders=true){a:Em α}{b:Em β}{r:Em γ}{F:α->β->Option γ}(h:∀x y z,F x y=some z->aJ P E f [a.aA x,b.aA y] (r.aA z)) :
  aF P (E.add f (entry (cU a b r F))):=by
 refine hE.OV hP λargs p hg=>?_
 match args,hg with
 | [q,s],hg=>
   simp only[cU]at hg;split at hg
   .rename_i x y hx hy;split at hg
    .rename_i z hz;simp only[yAb]at hg;subst hg;obtain⟨p1,σ1,e1,e2⟩:=h x y z hz;have h1:=Em.sT hx;have h2:=Em.sT hy;exact⟨p1,σ1,by simpa [h1,h2]using e1,e2,by simp[h1,h2,PD.eV,a.eC,b.eC],r.eC z⟩
    .cases hg
   .cases hg
end
end
section
section
variable{P:Program}{E:aE}{rd:Option Nat}{fl:Nat}{fr:Dq}{ms:List Nat}{σ:Dp}{Q:PO->Prop}
structure Wp (P:Program) (E:aE) (rd:Option Nat) (c:Code) (fl:Nat) (fr:List PD) (ms:List Nat) (σ:List U) (Q:PO->Prop):Prop where
 ex:∃r,Ev P E rd c fl fr ms σ r/\Q r
theorem aJI{n:Nat}{tg:FuncId ⊕ Nat}{args:Dq}{x:PD×Dp}(h:cW E fl tg args σ=some x):cD P E n fl tg args σ=some x:=by
 cases tg with
 |inl f=>
  simp only[cW]at h;simp only[cD,oI];split at h
  .rename_i g hg;first|exact h|(rw[hg];exact h)
  .cases h
 |inr id=>cases h
theorem QQ{n:Nat}{op:Op}{x:PD×Dp}(h:bK P (cW E) fl fr σ op=some x):bK P (cD P E n) fl fr σ op=some x:=by
 unfold bK at *;split at h
 .exact aJI h
 .exact h
theorem aBP{n:Nat}{ops:Du}:∀ {l:List Oper} {fr:Dq} {σ:Dp} {x:Dq×Dp},dS P (cW E) fl ops l fr σ=some x->dS P (cD P E n) fl ops l fr σ=some x
 | [],_,_,_,h=>h
 |o::rest,fr,σ,x,h=>by
  simp only[dS]at h ⊢;split at h
  .rename_i hw;rw[yAJ hw];split at h
   .rename_i p σ1 hp;rw[QQ hp];exact aBP h
   .cases h
  .rename_i hw;rw[yAI hw];exact aBP h
theorem aBR{n:Nat}{ops:Du}:∀ {l:List (Bool×Oper)} {fr:Dq} {σ:Dp} {x:Dq×Dp},nM P (cW E) fl ops l fr σ=some x->nM P (cD P E n) fl ops l fr σ=some x
 | [],_,_,_,h=>h
 |(free,o)::rest,fr,σ,x,h=>by
  simp only[nM]at h ⊢;split at h
  .rename_i hw;rw[yAJ hw];cases free with
   |true=>
    exact ny
   |false=>
    exact ny
  .rename_i hw;rw[yAI hw];exact aBR h
theorem Wp.mono{c:Code}{Q':PO->Prop}(h:Wp P E rd c fl fr ms σ Q)(k:∀r,Q r->Q' r):Wp P E rd c fl fr ms σ Q':=by
 obtain⟨r,h1,h2⟩:=h.ex;exact⟨r,h1,k r h2⟩
theorem Wp.skip(h:Q ⟨.normal,fr,ms,σ⟩):Wp P E rd .skip fl fr ms σ Q:=⟨_,.skip,h⟩
theorem Wp.ret(h:Q ⟨.ret,fr,ms,σ⟩):Wp P E rd .ret fl fr ms σ Q:=⟨_,.ret,h⟩
theorem Wp.exit{id:Nat}(h:Q ⟨.exit id,fr,ms,σ⟩):Wp P E rd (.exit id) fl fr ms σ Q:=⟨_,.exit,h⟩
structure aS (P:Program) (E:aE) (rd:Option Nat) (y:Code) (fl:Nat) (Q:PO->Prop) (r:PO):Prop where
 nx:r.x=.normal->Wp P E rd y fl r.fr r.ms r.σ Q
 out:r.x≠.normal->Q r
theorem Wp.seq{x y:Code}(h:Wp P E rd x fl fr ms σ (aS P E rd y fl Q)):Wp P E rd (.seq x y) fl fr ms σ Q:=by
 obtain⟨⟨x1,aH,ms1,σ1⟩,h1,h2⟩:=h.ex;cases x1 with
 |normal=>
  obtain⟨r2,h3,h4⟩:=(h2.nx rfl).ex;exact⟨r2,.seq h1 h3,h4⟩
 |ret=>exact⟨_,.aEK h1 yo,h2.out yo⟩
 |panic v=>exact⟨_,.aEK h1 yo,h2.out yo⟩
 |exit k=>exact⟨_,.aEK h1 yo,h2.out yo⟩
theorem aS.normal{y:Code}(h:Wp P E rd y fl fr ms σ Q):aS P E rd y fl Q ⟨.normal,fr,ms,σ⟩:=⟨λ_=>h,λe=>absurd rfl e⟩
theorem aS.ret{y:Code}(h:Q ⟨.ret,fr,ms,σ⟩):aS P E rd y fl Q ⟨.ret,fr,ms,σ⟩:=⟨λe=>zh,λ_=>h⟩
theorem aS.panic{y:Code}{v:Value}(h:Q ⟨.panic v,fr,ms,σ⟩):aS P E rd y fl Q ⟨.panic v,fr,ms,σ⟩:=⟨λe=>zh,λ_=>h⟩
theorem aS.exit{y:Code}{k:Nat}(h:Q ⟨.exit k,fr,ms,σ⟩):aS P E rd y fl Q ⟨.exit k,fr,ms,σ⟩:=⟨λe=>zh,λ_=>h⟩
theorem Wp.cond{g:Operand}{x y:Code}{b:Bool}(hg:aT fr g=some (.bool b))(h1:b=true->Wp P E rd x fl fr ms σ Q)(h2:b=false->Wp P E rd y fl fr ms σ Q):Wp P E rd (.cond g x y) fl fr ms σ Q:=by
 cases b with
 |true=>obtain⟨r,e1,e2⟩:=(h1 rfl).ex;exact⟨r,.cond hg e1,e2⟩
 |false=>obtain⟨r,e1,e2⟩:=(h2 rfl).ex;exact⟨r,.cond hg e1,e2⟩
theorem Wp.cond_true{g:Operand}{x y:Code}(hg:aT fr g=some (.bool true))(h1:Wp P E rd x fl fr ms σ Q):Wp P E rd (.cond g x y) fl fr ms σ Q:=.cond hg (λ_=>h1) (λh=>zk)
theorem Wp.cond_false{g:Operand}{x y:Code}(hg:aT fr g=some (.bool false))(h1:Wp P E rd y fl fr ms σ Q):Wp P E rd (.cond g x y) fl fr ms σ Q:=.cond hg (λh=>zk) (λ_=>h1)
structure aO (id:Nat) (Q:PO->Prop) (r:PO):Prop where
 out:∀k,r.x=.exit k->Q ⟨if k=id then .normal else .exit k,r.fr,r.ms,r.σ⟩
 on:(∀k,r.x≠.exit k)->Q r
theorem Wp.block{id:Nat}{b:Code}(h:Wp P E rd b fl fr ms σ (aO id Q)):Wp P E rd (.block id b) fl fr ms σ Q:=by
 obtain⟨⟨x1,aH,ms1,σ1⟩,h1,h2⟩:=h.ex;cases x1 with
 |normal=>exact⟨_,.aEL h1 yo,h2.on yo⟩
 |ret=>exact⟨_,.aEL h1 yo,h2.on yo⟩
 |panic v=>exact⟨_,.aEL h1 yo,h2.on yo⟩
 |exit k=>exact⟨_,.block h1,h2.out k rfl⟩
theorem aO.normal{id:Nat}(h:Q ⟨.normal,fr,ms,σ⟩):aO id Q ⟨.normal,fr,ms,σ⟩:=⟨λ_ e=>zh,λ_=>h⟩
theorem aO.ret{id:Nat}(h:Q ⟨.ret,fr,ms,σ⟩):aO id Q ⟨.ret,fr,ms,σ⟩:=⟨λ_ e=>zh,λ_=>h⟩
theorem aO.panic{id:Nat}{v:Value}(h:Q ⟨.panic v,fr,ms,σ⟩):aO id Q ⟨.panic v,fr,ms,σ⟩:=⟨λ_ e=>zh,λ_=>h⟩
theorem aO.here{id:Nat}(h:Q ⟨.normal,fr,ms,σ⟩):aO id Q ⟨.exit id,fr,ms,σ⟩:=
 ⟨λk e=>by simp only[PX.exit.injEq]at e;subst e;rw[yAJ rfl];exact h,λe=>absurd rfl (e id)⟩
theorem aO.there{id k:Nat}(hk:k≠id)(h:Q ⟨.exit k,fr,ms,σ⟩):aO id Q ⟨.exit k,fr,ms,σ⟩:=
 ⟨λk' e=>by simp only[PX.exit.injEq]at e;subst e;rw[yAI hk];exact h,λe=>absurd rfl (e k)⟩
structure bX (P:Program) (E:aE) (rd:Option Nat) (b:Code) (fl:Nat) (Q:PO->Prop) (r:PO):Prop where
 nx:r.x=.normal->Wp P E rd (.loop b) fl r.fr r.ms r.σ Q
 out:r.x≠.normal->Q r
theorem Wp.loop{b:Code}(h:Wp P E rd b fl fr ms σ (bX P E rd b fl Q)):Wp P E rd (.loop b) fl fr ms σ Q:=by
 obtain⟨⟨x1,aH,ms1,σ1⟩,h1,h2⟩:=h.ex;cases x1 with
 |normal=>
  obtain⟨r2,h3,h4⟩:=(h2.nx rfl).ex;exact⟨r2,.loop h1 h3,h4⟩
 |ret=>exact⟨_,.aEM h1 yo,h2.out yo⟩
 |panic v=>exact⟨_,.aEM h1 yo,h2.out yo⟩
 |exit k=>exact⟨_,.aEM h1 yo,h2.out yo⟩
theorem Wp.region{id:Nat}{ops:Du}{aH:Dq}{σ1:Dp}(h:dS P (cW E) fl ops ops.toList fr σ=some (aH,σ1))(k:Q ⟨.normal,aH,ms,σ1⟩):Wp P E rd (.region id ops false) fl fr ms σ Q:=
 ⟨_,.region (N:=0) (λ_ _=>aBP h),k⟩
theorem Wp.draw{id:Nat}{ops:Du}{aH:Dq}{σ1:Dp}(hs:UB ops=true)(h:nM P (cW E) fl ops (flags ops 0 ops.toList) fr σ=some (aH,σ1))(k:Q ⟨.normal,aH,ms,σ1⟩) :
  Wp P E rd (.region id ops true) fl fr ms σ Q:=
 ⟨_,.draw (N:=0) (λ_ _=>by rw[aJG hs];exact aBR h),k⟩
theorem aJ.body{f:FuncId}{fn:Func}{c:Code}{args:Dq}{p:PD}(hE:E f=none)(hf:P.funcs[f]?=some fn)(hb:fn.body=some c)
  (h:Wp P E none c 0 (args++List.replicate (fn.ntmps-args.length) (.aI [])) [] [] (λr=>∃p1 σ1,sX P 0 fn r=some (p1,σ1)/\p1.strip=p)):aJ P E f args p:=by
 exact tq
end
theorem wrap_i64{x:Int}(h:-9223372036854775808<=x)(h':x<=9223372036854775807):IntKind.i64.wrap x=x:=by
 exact jf
theorem wrap_u64{x:Int}(h:0<=x)(h':x<=18446744073709551615):IntKind.u64.wrap x=x:=by
 exact jf
theorem wrap_u8{x:Int}(h:0<=x)(h':x<=255):IntKind.u8.wrap x=x:=by
 exact jf
end
section
attribute [simp] dS nM flags Region.wanted bA bK dO pop dB kW aT aM jQ MU ofValue J9 ET cR PD.cells cW sU UC
attribute [simp] PD.plain PD.setCells jG T7 fR sX QY pJ EU OP OO T8 UD KA YT QZ
attribute [simp] PD.strip PD.lP T9 qO YQ YP Q0
@[simp] theorem OQ{α:Type}{e:Em α}{xs:List α}:PD.lP (xs.map e.aA)=xs.map e.aA:=by
  rw[PD.OQ,yBc];exact yAG λx _=>e.str x
@[simp] theorem a5P{α:Type}{e:Em α}{k:Nat}{xs:List α}{tok:Tok}:(PD.slice k (xs.map e.aA) tok).strip=.slice (sz k xs) (xs.map e.aA) .any:=by
  cases xs with
  |nil=>simp[PD.strip,sz]
  |cons x xs=>simp[PD.strip,sz,e.str]
section
variable{P:Program}{t:TypeId}{k k':IntKind}{a b:Int}{op:BinOp}
@[simp] theorem a5Q:eO P .add t (.int k a) (.int k' b)=if k=k' then gO .add k a b else none:=rfl
@[simp] theorem a5R:eO P .sub t (.int k a) (.int k' b)=if k=k' then gO .sub k a b else none:=rfl
@[simp] theorem a5S:eO P .mul t (.int k a) (.int k' b)=if k=k' then gO .mul k a b else none:=rfl
@[simp] theorem a5T:eO P .quo t (.int k a) (.int k' b)=if k=k' then gO .quo k a b else none:=rfl
@[simp] theorem a5U:eO P .rem t (.int k a) (.int k' b)=if k=k' then gO .rem k a b else none:=rfl
@[simp] theorem a5V:eO P .eql t (.int k a) (.int k' b)=if k=k' then gO .eql k a b else none:=rfl
@[simp] theorem a5W:eO P .neq t (.int k a) (.int k' b)=if k=k' then gO .neq k a b else none:=rfl
@[simp] theorem a5X:eO P .lss t (.int k a) (.int k' b)=if k=k' then gO .lss k a b else none:=rfl
@[simp] theorem a5Y:eO P .leq t (.int k a) (.int k' b)=if k=k' then gO .leq k a b else none:=rfl
@[simp] theorem a5Z:eO P .gtr t (.int k a) (.int k' b)=if k=k' then gO .gtr k a b else none:=rfl
@[simp] theorem a50:eO P .geq t (.int k a) (.int k' b)=if k=k' then gO .geq k a b else none:=rfl
@[simp] theorem a52:eO P .and t (.int k a) (.int k' b)=if k=k' then gO .and k a b else none:=rfl
@[simp] theorem a54:eO P .or t (.int k a) (.int k' b)=if k=k' then gO .or k a b else none:=rfl
@[simp] theorem a55:eO P .xor t (.int k a) (.int k' b)=if k=k' then gO .xor k a b else none:=rfl
@[simp] theorem a56:eO P .andNot t (.int k a) (.int k' b)=if k=k' then gO .andNot k a b else none:=rfl
@[simp] theorem a57:eO P .shl t (.int k a) (.int k' b)=YU .shl k a b:=rfl
@[simp] theorem a58:eO P .shr t (.int k a) (.int k' b)=YU .shr k a b:=rfl
@[simp] theorem a6a{x y:Dr}:eO P op t (.str x) (.str y)=YT op x y:=rfl
theorem aSv{x y:PD}{c:Bool}(h1:∀k a k' b,¬(x=.int k a/\y=.int k' b))(h2:∀a b,¬(x=.str a/\y=.str b))(h:mA P 12 t x y=some c)(h3:∀xs ys,¬(x=.agg xs/\y=.agg ys)):eO P .neq t x y=some (.bool (!c)):=by
 unfold eO sW;split
 .exact absurd ⟨rfl,rfl⟩ (h1 _ _ _ _)
 .exact absurd ⟨rfl,rfl⟩ (h2 _ _)
 .simp only;split
  .rename_i b hb;split at hb
   .exact absurd ⟨rfl,rfl⟩ (h3 _ _)
   .rw[h]at hb;rw[yBw hb]
  .rename_i hb;split at hb
   .exact absurd ⟨rfl,rfl⟩ (h3 _ _)
   .rw[h]at hb;cases hb
@[simp] theorem a6b{x y:Bool}(hu:P.underlying t=some .bool):eO P .neq t (.bool x) (.bool y)=some (.bool (!decide (x=y))):=
  aSv yo yo (by unfold mA;simp only[hu];cases x<;>cases y<;>rfl) yo
section
variable{e:TypeId}{i o:Nat}{cs:Dq}
end
end
section
variable{k:IntKind}{x y:Int}
@[simp] theorem a6c:gO .add k x y=some (.int k (k.wrap (x+y))):=rfl
@[simp] theorem a6d:gO .sub k x y=some (.int k (k.wrap (x-y))):=rfl
@[simp] theorem a6e:gO .mul k x y=some (.int k (k.wrap (x*y))):=rfl
@[simp] theorem a6f:gO .quo k x y=if y=0 then none else some (.int k (k.wrap (x.tdiv y))):=rfl
@[simp] theorem a6g:gO .rem k x y=if y=0 then none else some (.int k (x.tmod y)):=rfl
@[simp] theorem a6h:gO .eql k x y=some (.bool (decide (x=y))):=rfl
@[simp] theorem a6i:gO .neq k x y=some (.bool (!decide (x=y))):=rfl
@[simp] theorem a6j:gO .lss k x y=some (.bool (decide (x<y))):=rfl
@[simp] theorem a6k:gO .leq k x y=some (.bool (decide (x<=y))):=rfl
@[simp] theorem a6l:gO .gtr k x y=some (.bool (decide (x > y))):=rfl
@[simp] theorem a6m:gO .geq k x y=some (.bool (decide (x >= y))):=rfl
@[simp] theorem a6n:gO .and k x y=(match OR .and k x y with|some z=>some (.int k z)|none=>none):=rfl
@[simp] theorem a6o:gO .or k x y=(match OR .or k x y with|some z=>some (.int k z)|none=>none):=rfl
@[simp] theorem a6p:gO .xor k x y=(match OR .xor k x y with|some z=>some (.int k z)|none=>none):=rfl
@[simp] theorem a6q:gO .andNot k x y=(match OR .andNot k x y with|some z=>some (.int k z)|none=>none):=rfl
end
section
variable{P:Program}{fl:Nat}{fr:Dq}{σ:Dp}
@[simp] theorem a6r{t:TypeId}{x:Operand}:cO P fl fr σ (.load t x)=(match aT fr x with
  |some a=>(match kW P σ t a with|some p=>some (p,σ)|none=>none)
  |none=>none):=rfl
@[simp] theorem a6s{t:TypeId}{x y:Operand}:cO P fl fr σ (.store t x y)=(match aT fr x,aT fr y with
  |some a,some p=>(match qO P fl σ t a p with|some σ'=>some (.aI [],σ')|none=>none)
  |_,_=>none):=rfl
@[simp] theorem a6t{t:TypeId}{x:Operand}:cO P fl fr σ (.box t x)=(match aT fr x with
  |some p=>if p.cells.all PD.plain then some (.ptr σ.length 0,σ++[.box (nP t p)])else none
  |none=>none):=rfl
@[simp] theorem a6u{t:TypeId}{cs:Dq}:nP t (.agg cs)=if G0 t=true then .typed t cs else .agg cs:=rfl
@[simp] theorem a6v{t:TypeId}{k:IntKind}{n:Int}:nP t (.int k n)=.int k n:=rfl
@[simp] theorem a6w{t:TypeId}{b:Bool}:nP t (.bool b)=.bool b:=rfl
@[simp] theorem a6x{t:TypeId}{s:Dr}:nP t (.str s)=.str s:=rfl
@[simp] theorem a6y{t:TypeId}{n:Nat}{xs:Dq}{tok:Tok}:nP t (.slice n xs tok)=.slice n xs tok:=rfl
@[simp] theorem a6z{t:TypeId}{i o:Nat}:nP t (.ptr i o)=.ptr i o:=rfl
@[simp] theorem a6A{t:TypeId}:nP t .cQ=.cQ:=rfl
@[simp] theorem a6B{t:TypeId}{f:FuncId}{cs:Dq}:nP t (.func f cs)=.func f cs:=rfl
@[simp] theorem a6C{t:TypeId}:nP t .iC=.iC:=rfl
@[simp] theorem a6D{t:TypeId}{v:Value}:nP t (.bG v)=.bG v:=rfl
@[simp] theorem a6E{t:TypeId}{cs:Dq}:boxed t (.agg cs)=if G0 t=true then .typed t (cs.map G1)else .agg cs:=rfl
@[simp] theorem a6F:G1 (.slice 0 [] .full)=.slice 0 [] .nil:=rfl
@[simp] theorem a6G:G1 .cQ=.cQ:=rfl
@[simp] theorem a6H{k:IntKind}{n:Int}:G1 (.int k n)=.int k n:=rfl
@[simp] theorem a6I{s:Dr}:G1 (.str s)=.str s:=rfl
@[simp] theorem a6J{t:TypeId}{k:IntKind}{n:Int}:boxed t (.int k n)=.int k n:=rfl
@[simp] theorem a6K{t:TypeId}{b:Bool}:boxed t (.bool b)=.bool b:=rfl
@[simp] theorem a6L{t:TypeId}{s:Dr}:boxed t (.str s)=.str s:=rfl
@[simp] theorem a6M{t:TypeId}{n:Nat}{xs:Dq}{tok:Tok}:boxed t (.slice n xs tok)=.slice n xs tok:=rfl
@[simp] theorem a6N{t:TypeId}:boxed t .cQ=.cQ:=rfl
@[simp] theorem a6O{t:TypeId}:boxed t .iC=.iC:=rfl
@[simp] theorem a6P{t:TypeId}{v:Value}:boxed t (.bG v)=.bG v:=rfl
@[simp] theorem a6Q{t:TypeId}:cO P fl fr σ (.alloc t)=(match dT P t with
  |some p=>if p.cells.all PD.plain then some (.ptr σ.length 0,σ++[.box (boxed t p)])else none
  |none=>none):=rfl
@[simp] theorem a6R{t:TypeId}{len:Nat}{parts:Array (Nat×Operand)}:cO P fl fr σ (.buildSlice t len parts)=(match sU fr parts.toList with
  |some ps=>(match J7 P t len (ps.map λq=>(q.1,q.2.strip))with|some p=>some (p,σ)|none=>none)
  |none=>none):=rfl
@[simp] theorem a6S{args:Array Operand}{ts:Array TypeId}:cO P fl fr σ (.call { callee:=.builtin .append,args:=args,argTypes:=ts })=(match jQ fr args.toList,ts.toList with
  |some [s,x],[t,t']=>if t=t' then(match nO P fr.length fl σ t s x with|some r=>some r|none=>dX P fl σ t s x.strip)else(match P.underlying t',x with
   |some .string,.str l=>if xT P t=true then(match nO P fr.length fl σ t s (.slice (if l.length=0 then 0 else 1) (l.map λb=>.int .u8 b.toNat) .any)with|some r=>some r|none=>dX P fl σ t s (.slice (if l.length=0 then 0 else 1) (l.map λb=>.int .u8 b.toNat) .any))else none
   |some (.int .i64),.int .i64 m=>OS P fr.length σ t s m
   |_,_=>none)
  |_,_=>none):=rfl
def Q1(n:Nat):PD->Int->Option PD
 |.slice size xs _,i=>if 0<=i then(if (xs.length=0\/n=size)/\0<n then(match xs[i.toNat]? with|some p=>some (.cI p.cells 0)|none=>none)else none)else none
 |.cL id off m size,i=>if 0<=i then(if n=size/\i.toNat<m then some (.ptr id (off+i.toNat*n))else none)else none
 |.eB id ver off m size,i=>if 0<=i then(if n=size/\i.toNat<m then some (.fD id ver (off+i.toNat*n))else none)else none
 |_,_=>none
def YV(len n:Nat)(x:PD)(i:Int):Option PD:=
 if 0<=i then(if i.toNat<len then(match x with
  |.ptr id off=>some (.ptr id (off+i.toNat*n))
  |.cI cs off=>some (.cI cs (off+i.toNat*n))
  |.fD id ver off=>some (.fD id ver (off+i.toNat*n))
  |_=>none)else none)else none
@[simp] theorem a6T{t:TypeId}{x:PD}{k:IntKind}{i:Int}:MS P t x (.int k i)=(match P.underlying t with
  |some (.array len e)=>(match bI P e with|some n=>YV len n x i|none=>none)
  |some (.slice e)=>(match bI P e with|some n=>Q1 n x i|none=>none)
  |_=>none):=by
  unfold MS
  by_cases h0:0<=i
  .cases hu:P.underlying t with
   |none=>simp[h0]
   |some d=>
    cases d<;>simp only[gN,h0,yAM,YV]<;>try rfl
    rename_i e;cases bI P e<;>cases x<;>simp only[Q1,h0,yAM]<;>rfl
  .cases hu:P.underlying t with
   |none=>simp[h0]
   |some d=>
    cases d<;>simp only[gN,h0,yAO,YV]<;>try rfl
    all_goals (rename_i e;cases bI P e<;>cases x<;>simp only[Q1,h0,yAO])
@[simp] theorem a6U{n size:Nat}{xs:Dq}{tok:Tok}{i:Int}(h0:0<=i)(hn0:0<n)(hs:xs=[]\/n=size)(hi:i.toNat<xs.length):Q1 n (.slice size xs tok) i=some (.cI xs[i.toNat].cells 0):=by
  have hx:xs.length=0\/n=size:=hs.imp (λh=>zn) (λh=>h);simp only[Q1,h0,hx,hn0,yCw,yAM,yAh hi]
@[simp] theorem a6V{n id off m:Nat}{i:Int}(h0:0<=i)(hi:i.toNat<m):Q1 n (.cL id off m n) i=some (.ptr id (off+i.toNat*n)):=by
  simp only[Q1,h0,hi,yCw,yAM]
@[simp] theorem a6W{len n id off:Nat}{i:Int}(h0:0<=i)(hi:i.toNat<len):YV len n (.ptr id off) i=some (.ptr id (off+i.toNat*n)):=by
  unfold YV;rw[yAJ h0,yAJ hi]
def aBQ(s:List UInt8)(i:Int):Option PD:=if 0<=i then(match s[i.toNat]? with|some b=>some (.int .u8 b.toNat)|none=>none)else none
@[simp] theorem a6X{s:Dr}{i:Int}(h0:0<=i)(hi:i.toNat<s.length):aBQ s i=some (.int .u8 s[i.toNat].toNat):=by
  unfold aBQ;rw[yAJ h0,yAh hi]
@[simp] theorem a6Y{t:TypeId}{s:Dr}{k:IntKind}{i:Int}:MT P t (.str s) (.int k i)=(match P.underlying t with
  |some .string=>aBQ s i
  |_=>none):=by
  unfold MT aBQ
  by_cases h0:0<=i
  .cases hu:P.underlying t with
   |none=>simp[h0]
   |some d=>cases d<;>simp only[gN,h0,yAM]<;>rfl
  .cases hu:P.underlying t with
   |none=>simp[h0]
   |some d=>cases d<;>simp only[gN,h0,yAO]<;>try rfl
@[simp] theorem a6Z{t:TypeId}{cs:Dq}{k:IntKind}{i:Int}:MT P t (.agg cs) (.int k i)=(match P.underlying t with
  |some (.array len e)=>(match bI P e with
   |some n=>if 0<=i then(if i.toNat<len then nN P e cs (i.toNat*n)else none)else none
   |none=>none)
  |_=>none):=by
  unfold MT
  by_cases h0:0<=i
  .cases hu:P.underlying t with
   |none=>simp[gN,h0]
   |some d=>cases d<;>simp only[gN,h0,yAM]<;>rfl
  .cases hu:P.underlying t with
   |none=>simp[gN,h0]
   |some d=>
    cases d<;>simp only[gN,h0,yAO]<;>try rfl
    cases bI P _<;>rfl
@[simp] theorem a60{k:IntKind}{i:Int}(h:0<=i):gN (some (.int k i))=some i.toNat:=by simp only[gN,h,yAM]
def OT(n l h:Nat):Option (Nat×Nat):=if l<=h/\h<=n then some (l,h)else none
@[simp] theorem a61{n l h:Nat}(h1:l<=h)(h2:h<=n):OT n l h=some (l,h):=by simp[OT,h1,h2]
@[simp] theorem a62{n:Nat}{x:Option PD}:mS n (some x) none=(match gN x with|some l=>OT n l n|none=>none):=by
  simp only[mS,OT];cases gN x<;>rfl
@[simp] theorem a63{n:Nat}{x:Option PD}:mS n none (some x)=(match gN x with|some h=>OT n 0 h|none=>none):=by
  simp only[mS,OT];cases gN x<;>rfl
@[simp] theorem a64{n:Nat}{x y:Option PD}:mS n (some x) (some y)=(match gN y,gN x with|some h,some l=>OT n l h|_,_=>none):=by
  simp only[mS,OT];cases gN x<;>cases gN y<;>rfl
def UE(n size:Nat)(xs:List PD)(tok:Tok)(lh:Option (Nat×Nat)):Option PD:=
 match lh with
 |some (l,h)=>if xs.length=0\/n=size then some (.slice size ((xs.drop l).take (h-l))
      (if h=xs.length then(match tok with|.full=>.full|.own id=>if l=0 then .own id else .any|_=>.any)else .any))else none
 |none=>none
def aEH(s:List UInt8)(lh:Option (Nat×Nat)):Option PD:=
 match lh with
 |some (l,h)=>some (.str ((s.drop l).take (h-l)))
 |none=>none
@[simp] theorem a65{n size l h:Nat}{xs:Dq}(hs:xs=[]\/n=size):UE n size xs .any (some (l,h))=some (.slice size ((xs.drop l).take (h-l)) .any):=by
  have hx:xs.length=0\/n=size:=hs.imp (λh=>zn) (λh=>h);simp only[UE,hx,yAM,ite_self]
@[simp] theorem a66{s:Dr}{l h:Nat}:aEH s (some (l,h))=some (.str ((s.drop l).take (h-l))):=rfl
@[simp] theorem a67{t:TypeId}{s:Dr}{lo hi:Option (Option PD)}:GZ P t (.str s) lo hi none=(match P.underlying t with
  |some .string=>aEH s (mS s.length lo hi)
  |_=>none):=by
  unfold GZ aEH;cases hu:P.underlying t with
  |none=>rfl
  |some d=>cases d<;>simp only[Option.isSome_none,yAx,yAO]<;>rfl
@[simp] theorem a68{t:TypeId}{size:Nat}{xs:Dq}{tok:Tok}{lo hi:Option (Option PD)}:GZ P t (.slice size xs tok) lo hi none=(match P.underlying t with
  |some (.slice e)=>(match bI P e with|some n=>UE n size xs tok (mS xs.length lo hi)|none=>none)
  |_=>none):=by
  unfold GZ UE;cases hu:P.underlying t with
  |none=>rfl
  |some d=>
   cases d<;>simp only<;>try rfl
   cases bI P _<;>simp only
   cases mS xs.length lo hi<;>simp only
   split<;>rfl
@[simp] theorem a69{t:TypeId}{id off m size:Nat}{lo hi:Option (Option PD)}:GZ P t (.cL id off m size) lo hi none=(match P.underlying t with
  |some (.slice e)=>(match bI P e with|some n=>(match mS m lo hi with|some (l,h)=>if n=size/\(l=0\/l<m)then some (.cL id (off+l*n) (h-l) n)else none|none=>none)|none=>none)
  |_=>none):=by
  unfold GZ;cases hu:P.underlying t with
  |none=>rfl
  |some d=>
   cases d<;>simp only<;>try rfl
   cases bI P _<;>simp only
   cases mS m lo hi<;>simp only
end
section
variable{α:Type}
def St(B:List U)(e:TypeId)(k n:Nat):List U:=B++(if n=0 then []else [.own e k n])
def jH(id n:Nat):Tok:=if n=0 then .full else .own id
@[simp] theorem aEI{B:Dp}{e:TypeId}{k n i:Nat}(h:i<B.length):(St B e k n)[i]?=B[i]?:=by
  unfold St;rw[yAg h]
@[simp] theorem a7a{B:Dp}{e:TypeId}{k n i:Nat}{o:U}(h:i<B.length):(St B e k n).set i o=St (B.set i o) e k n:=by
  unfold St;rw[yCI _ _ h]
@[simp] theorem a7b{B:Dp}{e:TypeId}{k:Nat}:St B e k 0=B:=by simp[St]
@[simp] theorem a7c{id:Nat}:jH id 0=.full:=rfl
theorem aSw{P:Program}{fl:Nat}{B:Dp}{t e:TypeId}{i:TypeInfo}{z:Value}{n s:Nat}{xs:Dq}{p:PD}{tk:Tok}(hu:P.underlying t=some (.slice e))(hi:P.info? e=some i)(hz:i.zero=some z)(hzs:z.cells.size=i.size)
  (h0:0<i.size) (hs:xs=[]\/s=i.size) (hn:xs.length=n) (hfl:fl<=B.length) (hm:xs.length+1<=maxLen) (hb:(xs.length+1)*i.bytes<=140737488355328) :
  dX P fl (St B e i.size n) t (.slice s xs (jH B.length n)) (.slice i.size [p] tk)=some (.slice i.size (xs++[p]) (jH B.length (n+1)),St B e i.size (n+1)):=by
 subst hn;have hs':xs.length=0\/s=i.size:=hs.imp (λh=>zn) (λh=>h);have h1:[p].length=1:=rfl;simp only[dX,hu,hi,hz,h1,hs',h0,hzs,hm,hb,or_true,yCw,yAM,Nat.one_ne_zero,yAO];cases xs with
 |nil=>simp[jH,St]
 |cons x xs=>
  have hs2:s=i.size:=by simpa using hs
  subst hs2;simp[jH,St,hfl]
def qR(P:Program)(e:TypeId):Option (Nat×Nat):=match P.info? e with
 |some i=>match i.zero with
  |some z=>if z.cells.size=i.size/\0<i.size then some (i.size,i.bytes)else none
  |none=>none
 |none=>none
theorem aSx{P:Program}{fl:Nat}{B:Dp}{t e:TypeId}{k b n s id:Nat}{xs:Dq}{p:PD}{tk:Tok}(hu:P.underlying t=some (.slice e))(hi:qR P e=some (k,b))
  (hs:xs=[]\/s=k) (hn:xs.length=n) (hid:id=B.length) (hfl:fl<=B.length) (hm:xs.length+1<=maxLen) (hb:(xs.length+1)*b<=140737488355328) :
  dX P fl (St B e k n) t (.slice s xs (jH id n)) (.slice k [p] tk)=some (.slice k (xs++[p]) (jH id (n+1)),St B e k (n+1)):=by
 unfold qR at hi;split at hi
 .rename_i i h1;split at hi
  .rename_i z h2;split at hi
   .rename_i h3;simp only[yAb,yAc]at hi;obtain⟨rfl,rfl⟩:=hi;subst hid;exact aSw hu h1 h2 h3.1 h3.2 hs hn hfl hm hb
   .cases hi
  .cases hi
 .cases hi
attribute [simp] nN
def aEJ(P:Program)(e:TypeId)(k n:Nat):Prop:=match qR P e with
 |some (k',b)=>k'=k/\n*b<=140737488355328
 |none=>False
attribute [simp] aEJ
@[simp] theorem a7d{P:Program}{fl:Nat}{B:Dp}{t e:TypeId}{k n s id:Nat}{xs:Dq}{p:PD}{tk:Tok}(hu:P.underlying t=some (.slice e))(hi:aEJ P e k (xs.length+1))
  (hs:xs=[]\/s=k) (hn:n=xs.length) (hid:id=B.length) (hfl:fl<=B.length) (hm:xs.length+1<=100000000000000) :
  dX P fl (St B e k n) t (.slice s xs (jH id n)) (.slice k [p] tk)=some (.slice k (xs++[p]) (jH id (n+1)),St B e k (n+1)):=by
  unfold aEJ at hi;split at hi
  .rename_i k' b h1;obtain⟨rfl,h2⟩:=hi;exact aSx hu h1 hs hn.symm hid hfl zy h2
  .cases hi
attribute [simp] J7
end
end
section
section
variable{P:Program}{E:aE}{rd:Option Nat}{fl:Nat}{fr:Dq}{ms:List Nat}{σ:Dp}{Q:PO->Prop}{ops:Du}
structure cF (P:Program) (E:aE) (fl:Nat) (f:FuncId ⊕ Nat) (args:List PD) (σ:List U) (R:PD->List U->Prop):Prop where
 ex:∃p σ',mB P E fl f args σ p σ'/\R p σ'
structure WpO (P:Program) (E:aE) (fl:Nat) (ops:Array Oper) (l:List (Bool×Oper)) (fr:List PD) (σ:List U) (R:List PD->List U->Prop):Prop where
 ex:∃N fr' σ',(∀n,N<=n->nM P (cD P E n) fl ops l fr σ=some (fr',σ'))/\R fr' σ'
inductive QW (P:Program) (E:aE) (fl id:Nat) (K:List U->Prop):List (List PD)->List U->List U->Prop
 |nil {σ:Dp}:K σ->QW P E fl id K [] σ σ
 |more {a:Dq} {rest:List (List PD)} {σ σ1 σ2:Dp}:K σ->mB P E fl (.inr id) a σ (.bool true) σ1->QW P E fl id K rest σ1 σ2->QW P E fl id K (a::rest) σ σ2
 |stop {a:Dq} {rest:List (List PD)} {σ σ1:Dp}:K σ->mB P E fl (.inr id) a σ (.bool false) σ1->QW P E fl id K (a::rest) σ σ1
structure aED (P:Program) (E:aE) (fl id:Nat) (K:List U->Prop) (items:List (List PD)) (σ:List U) (R:List U->Prop):Prop where
 ex:∃σ2,QW P E fl id K items σ σ2/\R σ2
theorem cF.body{f:FuncId}{fn:Func}{c:Code}{args:Dq}{R:PD->List U->Prop}(hE:E f=none)(hf:P.funcs[f]?=some fn)(hb:fn.body=some c)
  (h:Wp P E none c fl (args++List.replicate (fn.ntmps-args.length) (.aI [])) [] σ (λr=>∃p1 σ1,sX P fl fn r=some (p1,σ1)/\R p1 σ1)):cF P E fl (.inl f) args σ R:=by
 exact tq
end
def aBN(ops:Array Oper):Bool:=(flags ops 0 ops.toList).all λx=>x.1
theorem aEG{P:Program}{call:b9}{fl:Nat}{ops:Du}:∀(l:List (Bool×Oper)) (fr:List PD) (σ:List U),l.all (λx=>x.1)=true->nM P call fl ops l fr σ=dS P call fl ops (l.map Prod.snd) fr σ
 | [],_,_,_=>rfl
 |(free,o)::l,fr,σ,h=>by
  simp only[yBK,yAr]at h;obtain⟨h1,h2⟩:=h;subst h1;simp only[dS,nM,yAX];split
  .cases bK P call fl fr σ o.op with
   |none=>rfl
   |some q=>obtain⟨p,σ'⟩:=q;simp only;exact aEG l _ _ h2
  .exact aEG l _ _ h2
theorem aJF(ops:Array Oper):∀(l:List Oper) (i:Nat),(flags ops i l).map Prod.snd=l
 | [],_=>rfl
 |o::l,i=>by simp only[flags,yAX,aJF ops l (i+1)]
theorem aSs{P:Program}{call:b9}{fl:Nat}{ops:Du}(hs:(UB ops&&aBN ops)=true)(fr:List PD)(σ:List U):kX P call fl ops fr σ=dS P call fl ops ops.toList fr σ:=by
 simp only[yAr]at hs;rw[aJG hs.1,aEG _ _ _ hs.2,aJF]
def aG(E:aE):Prop:=∀f g args p,E f=some g->g 0 args []=some (p,[])->∀fl σ,g fl args σ=some (p,σ)
def fK(E:aE):b9
 |_,.inl f,args,σ=>match E f with
  |some g=>match g 0 args []with
   |some (p,[])=>some (p,σ)
   |_=>none
  |none=>none
 |_,.inr _,_,_=>none
def J6(ops:Array Oper):Bool:=ops.toList.all λo=>match o.op with
 |.box ..=>false
 |.call { callee:=.builtin .append,.. }=>false
 |.call { callee:=.builtin .copy,.. }=>false
 |_=>true
theorem QP{P:Program}{E:aE}(hU:aG E){fl cE:Nat}{fr:Dq}{σ:Dp}{op:Op}{x:PD×Dp}(hop:(match op with
 |.box ..=>false
 |.call { callee:=.builtin .append,.. }=>false
 |.call { callee:=.builtin .copy,.. }=>false
 |_=>true)=true) (hm:cR op=true) (h:bK P (fK E) fl fr σ op=some x):bK P (cW E) cE fr σ op=some x/\x.2=σ:=by
 unfold bK at *;cases hc:dO fr op with
 |some q=>
  obtain⟨tg,args⟩:=q;simp only[hc]at h ⊢;cases tg with
  |inr id=>cases h
  |inl f=>
   simp only[fK]at h;split at h
   .rename_i g hg;split at h
    .rename_i p hp;simp only[yAb]at h;subst h;simp only[cW,hg];exact⟨hU f g args p hg hp cE σ,by trivial⟩
    .cases h
   .cases h
 |none=>
  exact dx
theorem aJu{P:Program}{call call':b9}{fl:Nat}{fr:Dq}{σ:Dp}{op:Op}(hm:cR op=false):bK P call fl fr σ op=bK P call' fl fr σ op:=by
 unfold bK;have:dO fr op=none:=by
  cases op with
  |call c=>
   obtain⟨callee,args,ts⟩:=c;cases callee with
   |value f=>simp[cR]at hm
   |invoke r m=>rfl
   |builtin b=>rfl
  |_=>rfl
 rw[this]
theorem YR{P:Program}{E:aE}(hU:aG E){fl:Nat}{ops:Du}:∀(l:List Oper) (i:Nat) (fr:List PD) (σ:List U) (x:Dq×List U),l.all (λo=>match o.op with
 |.box ..=>false
 |.call { callee:=.builtin .append,.. }=>false
 |.call { callee:=.builtin .copy,.. }=>false
 |_=>true)=true->dS P (fK E) fl ops l fr σ=some x->nM P (cW E) fl ops (flags ops i l) fr σ=some x
 | [],_,_,_,_,_,h=>h
 |o::l,i,fr,σ,x,ho,h=>by
  simp only[yBK,yAr]at ho;simp only[dS]at h;simp only[flags,nM];split at h
  .rename_i hw;rw[yAJ hw];split at h
   .rename_i p σ1 hp;cases hm:cR o.op with
    |false=>
     rw[aJu (call':=cW E) hm]at hp;simp only[yBW,yCY,hp];exact ng
    |true=>
     cases EN ops i with
     |true=>
      have:=(QP hU (cE:=fl) ho.1 hm hp).1;simp only[Bool.or_true,this];exact ng
     |false=>
      obtain⟨e1,e2⟩:=QP hU (cE:=max fl σ.length) ho.1 hm hp;simp only at e2;subst e2;simp only[yBH,Bool.or_self,e1,yCe,yAl];exact ng
   .cases h
  .rename_i hw;rw[yAI hw];exact ng
theorem aG.entry{E:aE}(hU:aG E){f:FuncId}{g:List PD->Option PD}:aG (E.add f (entry g)):=by
 intro f' g' args p hE h fl σ;rw[aE.o3]at hE;split at hE
 .simp only[yAb]at hE;subst hE;unfold Go.Kz.entry at h ⊢;cases hg:g args with
  |none=>simp only[hg]at h;cases h
  |some q=>
   simp only[hg,yAb,yAc,yAV]at h;subst h;rfl
 .exact hU f' g' args p hE h fl σ
theorem aG.none:aG .nil:=λ_ _ _ _ h=>zk
theorem aG.other{E:aE}(hU:aG E){f:FuncId}{g:Dj}(hg:∀args p,g 0 args []≠some (p,[])):aG (E.add f g):=by
 intro f' g' args p hE h fl σ;rw[aE.o3]at hE;split at hE
 .simp only[yAb]at hE;subst hE;exact absurd h (hg _ _)
 .exact hU f' g' args p hE h fl σ
def force{α:Type}(n:Nat)(f:Nat->α):α:=match n with|0=>f 0|k+1=>f (k+1)
theorem force_eq{α:Type}(n:Nat)(f:Nat->α):force n f=f n:=by cases n<;>rfl
def aBO{α:Type}:List Nat->Nat->(List Nat->α)->α
 | [],m,f=>f [m]
 |x::xs,m,f=>aBO xs m λys=>f (x::ys)
theorem aJH{α:Type}:∀(l:List Nat) (m:Nat) (f:List Nat->α),aBO l m f=f (l++[m])
 | [],_,_=>rfl
 |x::xs,m,f=>by rw[aBO,aJH xs];rfl
def vC{α:Type}:List Oper->List Nat->(List Nat->α)->α
 | [],acc,f=>f acc
 |o::r,acc,f=>force (J8 acc o) λm=>aBO acc m λacc'=>vC r acc' f
theorem o4{α:Type}:∀(l:List Oper) (acc:List Nat) (f:List Nat->α),vC l acc f=f (bU l acc)
 | [],_,_=>rfl
 |o::r,acc,f=>by rw[vC,force_eq,aJH,o4 r];rfl
def sV(ops:Array Oper):Bool:=vC ops.toList [] λms=>
 EM ops ms&&ops.toList.all (λo=>!bT o.op) &&
 (List.range ops.size).all λk=>!eL eU ops.toList k||(List.range ops.size).all λi=>!eL dE ops.toList i||!loose ms i k
theorem T4(ops:Array Oper):sV ops=UB ops:=by rw[sV,o4];rfl
def QT(ops:Array Oper):Bool:=vC ops.toList [] λms=>
 (List.range ops.size).all λi=>!eL cR ops.toList i||gH ops.toList ms i
theorem aSt{ops:Du}(h:QT ops=true):aBN ops=true:=by
 rw[QT,o4]at h;simp only[yAn,yAY,yBi,yBu]at h;unfold aBN;have key:∀(l:List Oper) (i:Nat),ops.toList.drop i=l->(flags ops i l).all (λx=>x.1)=true:=by
  intro l
  induction l with
  |nil=>intro _ _;rfl
  |cons o r ih=>
   intro i hd;have ho:ops.toList[i]?=some o:=by
    exact vp
   have hd':ops.toList.drop (i+1)=r:=Cv;have hi:i<ops.size:=by
    have:=(yA.1 ho).1;exact bp
   simp only[flags,yBK,yAr,yBi,yBu];refine⟨?_,ih (i+1) hd'⟩;have:=h i hi;rw[eL,ho]at this;simpa [EN]using this
 exact key _ 0 yo
theorem aSu{ops:Du}(h:(sV ops&&QT ops)=true):(UB ops&&aBN ops)=true:=by
 simp only[yAr,T4]at h ⊢;exact⟨h.1,aSt h.2⟩
section
variable{P:Program}{E:aE}{rd:Option Nat}{fl:Nat}{fr:Dq}{ms:List Nat}{σ:Dp}{Q:PO->Prop}{ops:Du}
theorem Wp.jP{id:Nat}{aH:Dq}{σ1:Dp}(hs:(sV ops&&QT ops)=true)(h:dS P (cW E) fl ops ops.toList fr σ=some (aH,σ1))(k:Q ⟨.normal,aH,ms,σ1⟩):Wp P E rd (.region id ops true) fl fr ms σ Q:=
 ⟨_,.draw (N:=0) (λ_ _=>by rw[aSs (aSu hs)];exact aBP h),k⟩
theorem Wp.eI{id:Nat}{aH:Dq}{σ1:Dp}(hU:aG E)(hs:(sV ops&&J6 ops)=true)(h:dS P (fK E) fl ops ops.toList fr σ=some (aH,σ1))(k:Q ⟨.normal,aH,ms,σ1⟩):Wp P E rd (.region id ops true) fl fr ms σ Q:=by
 simp only[yAr,T4]at hs;exact .draw hs.1 (YR hU _ 0 _ _ _ hs.2 h) k
end
attribute [simp] YS QX fK
end
section
def tn{n:Nat}(b:BitVec n):Int:=(b.toNat:Int)
def Em.aSq:Em (BitVec 64):=(Em.int .u64).nQ tn (λ_ _ h=>yDM Cb)
def Em.aSr:Em (BitVec 16):=(Em.int .u16).nQ tn (λ_ _ h=>yDM Cb)
def Em.bv8:Em (BitVec 8):=(Em.int .u8).nQ tn (λ_ _ h=>yDM Cb)
@[simp] theorem a5M{b:BitVec 64}:Em.aSq.aA b=.int .u64 (tn b):=rfl
@[simp] theorem a5N{b:BitVec 16}:Em.aSr.aA b=.int .u16 (tn b):=rfl
@[simp] theorem a5O{b:BitVec 8}:Em.bv8.aA b=.int .u8 (tn b):=rfl
section
variable{a b:BitVec 64}
end
@[simp] theorem wrap_zero(k:IntKind):k.wrap 0=0:=by cases k<;>rfl
end
section
structure SQ (P:Program) (call:b9) (fl:Nat) (ops:Array Oper) (l:List Oper) (fr:List PD) (σ:List U) (K:List PD->List U->Prop):Prop where
 ex:∃fr' σ',dS P call fl ops l fr σ=some (fr',σ')/\K fr' σ'
def lk:List PD->Nat->Option PD
 | [],_=>none
 |x::_,0=>some x
 |_::xs,n+1=>lk xs n
def bF(fr:List PD):Operand->Option PD
 |.tmp t=>lk fr t
 |.const v=>ofValue v
 |.func f=>some (.func f [])
 |.global g=>match MH g with
   |some ds=>some (.cI ds 0)
   |none=>none
def ER(fr:List PD):List Operand->Option (List PD)
 | []=>some []
 |x::xs=>match bF fr x,ER fr xs with
  |some p,some ps=>some (p::ps)
  |_,_=>none
def QU(fr:List PD):List (Nat×Operand)->Option (List (Nat×PD))
 | []=>some []
 |(i,x)::r=>match bF fr x,QU fr r with
  |some p,some ps=>some ((i,p)::ps)
  |_,_=>none
def MQ(fr:List PD):Option Operand->Option (Option (Option PD))
 |none=>some none
 |some x=>match bF fr x with
  |some p=>some (some (some p))
  |none=>none
theorem aBM:∀(fr:List PD) (t:Nat),lk fr t=fr[t]?
 | [],_=>by simp[lk]
 |_::_,0=>by simp[lk]
 |_::xs,n+1=>by simp[lk,aBM xs n]
theorem cS{fr:Dq}{x:Operand}{p:PD}(h:bF fr x=some p):aT fr x=some p:=by
 cases x with
 |tmp t=>
  simp only[bF,aBM]at h;simp only[aT,yAA,h,yCa]
 |_=>exact h
theorem MV{fr:Dq}:∀ {xs:List Operand} {ps:Dq},ER fr xs=some ps->jQ fr xs=some ps
 | [],_,h=>h
 |x::xs,ps,h=>by
  simp only[ER]at h;split at h
  .rename_i p qs h1 h2;simp only[jQ,cS h1,MV h2];exact h
  .cases h
theorem aEE{fr:Dq}:∀ {xs:List (Nat×Operand)} {ps:List (Nat×PD)},QU fr xs=some ps->sU fr xs=some ps
 | [],_,h=>h
 |(i,x)::xs,ps,h=>by
  simp only[QU]at h;split at h
  .rename_i p qs h1 h2;simp only[sU,cS h1,aEE h2];exact h
  .cases h
theorem aEF{fr:Dq}{x:Option Operand}{p:Option (Option PD)}(h:MQ fr x=some p):x.map (aT fr)=p:=by
 cases x with
 |none=>simpa [MQ]using h
 |some x=>
  simp only[MQ]at h;split at h
  .rename_i q hq;simp only[yAb]at h;subst h;show some (aT fr x)=_
   rw[cS hq]
  .cases h
section
variable{P:Program}{E:aE}{call:b9}{rd:Option Nat}{fl:Nat}{fr aH:Dq}{ms:List Nat}{σ σ1:Dp}{Q:PO->Prop}{ops:Du}{K:List PD->List U->Prop}{l:List Oper}{dst:Option Tmp}
 {ty:TypeId} {pos:String} {edges:Array Edge} {guard:Option (Nat×Bool)} {t:TypeId} {x y:Operand} {p q r:PD}
theorem SQ.nil(h:K fr σ):SQ P call fl ops [] fr σ K:=⟨fr,σ,rfl,h⟩
theorem SQ.step{o:Oper}(hw:Region.wanted o (bA ops fr)=true)(h:bK P call fl fr σ o.op=some (p,σ1))(k:SQ P call fl ops l (aM fr o.dst p) σ1 K):SQ P call fl ops (o::l) fr σ K:=by
 obtain⟨fr',σ',h1,h2⟩:=k.ex;exact⟨fr',σ',by simp only[dS,hw,yAM,h,h1],h2⟩
theorem SQ.pass{o:Oper}(hw:Region.wanted o (bA ops fr)=false)(hf:aM fr o.dst (.aI [])=aH)(k:SQ P call fl ops l aH σ K):SQ P call fl ops (o::l) fr σ K:=by
 subst hf;obtain⟨fr',σ',h1,h2⟩:=k.ex;exact⟨fr',σ',by simp only[dS,hw,yAx,yAO,h1],h2⟩
theorem qU{op:Op}(hc:dO fr op=none)(h:dB P fr op=some p):bK P call fl fr σ op=some (p,σ):=by
 unfold bK pop;rw[hc,h]
theorem ES{op:Op}(hc:dO fr op=none)(hv:dB P fr op=none)(h:cO P fl fr σ op=some (p,σ1)):bK P call fl fr σ op=some (p,σ1):=by
 unfold bK pop;rw[hc];simp only[hv];exact h
theorem SQ.move(hw:Region.wanted ⟨dst,.move x,ty,pos,edges,guard⟩ (bA ops fr)=true)(hx:bF fr x=some p)(hf:aM fr dst p=aH)(k:SQ P call fl ops l aH σ K):SQ P call fl ops (⟨dst,.move x,ty,pos,edges,guard⟩::l) fr σ K:=
 .step hw (qU rfl (cS hx)) (hf▸k)
theorem SQ.assign(hw:Region.wanted ⟨dst,.assign x,ty,pos,edges,guard⟩ (bA ops fr)=true)(hx:bF fr x=some p)(hf:aM fr dst p=aH)(k:SQ P call fl ops l aH σ K):SQ P call fl ops (⟨dst,.assign x,ty,pos,edges,guard⟩::l) fr σ K:=
 .step hw (qU rfl (cS hx)) (hf▸k)
theorem SQ.pick{c:Operand}{b:Bool}(hw:Region.wanted ⟨dst,.pick c x y,ty,pos,edges,guard⟩ (bA ops fr)=true)(hc:bF fr c=some (.bool b))(hx:cond b (bF fr x) (bF fr y)=some p)(hf:aM fr dst p=aH)(k:SQ P call fl ops l aH σ K) :
  SQ P call fl ops (⟨dst,.pick c x y,ty,pos,edges,guard⟩::l) fr σ K:=
 .step hw (qU rfl (by simp only[dB,cS hc];cases b<;>exact cS hx)) (hf▸k)
theorem SQ.binOp{op:BinOp}{u:TypeId}(hw:Region.wanted ⟨dst,.binOp op t x y u,ty,pos,edges,guard⟩ (bA ops fr)=true)(hx:bF fr x=some p)(hy:bF fr y=some q)(hr:eO P op t p q=some r)(hf:aM fr dst r=aH)(k:SQ P call fl ops l aH σ K) :
  SQ P call fl ops (⟨dst,.binOp op t x y u,ty,pos,edges,guard⟩::l) fr σ K:=
 .step hw (qU rfl Ci) (hf▸k)
theorem aSo{op:BinOp}{e:TypeId}{b:Bool}{u:TypeId}(hx:bF fr x=some p)(hu:P.underlying t=some (.slice e))(hb:GY p=some b)(ho:op=.eql\/op=.neq) :
  dB P fr (.binOp op t x (.const (.slice none 0 0)) u)=some (.bool (if op=.eql then b else !b)):=by
 have hy:aT fr (.const (.slice none 0 0))=some (.slice 0 [] .full):=rfl;simp only[dB,cS hx,hy];have hn:eO P op t p (.slice 0 [] .full)=none:=by
  unfold GY at hb;rcases ho with rfl|rfl
  all_goals
   split at hb
   .simp[eO,sW,mA,hu]
   .simp[eO,sW,mA,hu]
   .simp[eO,sW,mA,hu]
   .cases hb
 rw[hn];rcases ho with rfl|rfl<;>simp[UA,hu,hb]
theorem SQ.gC{e:TypeId}{b:Bool}{u:TypeId}(hw:Region.wanted ⟨dst,.binOp .eql t x (.const (.slice none 0 0)) u,ty,pos,edges,guard⟩ (bA ops fr)=true)(hx:bF fr x=some p)(hu:P.underlying t=some (.slice e))(hb:GY p=some b)(hf:aM fr dst (.bool b)=aH)(k:SQ P call fl ops l aH σ K) :
  SQ P call fl ops (⟨dst,.binOp .eql t x (.const (.slice none 0 0)) u,ty,pos,edges,guard⟩::l) fr σ K:=
 .step hw (qU rfl (aSo hx hu hb (.inl rfl))) (hf▸k)
theorem SQ.make{e:TypeId}{k1 k2:IntKind}{a b:Int}(hw:Region.wanted ⟨dst,.makeSlice t x y,ty,pos,edges,guard⟩ (bA ops fr)=true)(hx:bF fr x=some (.int k1 a))(hy:bF fr y=some (.int k2 b))(hu:P.underlying t=some (.slice e))(ha:0<=a/\0<=b)
  (hr:xS P σ t e a.toNat b.toNat=some (r,σ1)) (hf:aM fr dst r=aH) (k:SQ P call fl ops l aH σ1 K):SQ P call fl ops (⟨dst,.makeSlice t x y,ty,pos,edges,guard⟩::l) fr σ K:=
 .step hw (ES rfl rfl (by simp only[cO,cS hx,cS hy,hu,gN,ha.1,ha.2,yAM,hr])) (hf▸k)
theorem SQ.unOp{op:UnOp}(hw:Region.wanted ⟨dst,.unOp op t x,ty,pos,edges,guard⟩ (bA ops fr)=true)(hx:bF fr x=some p)(hr:T7 op p=some r)(hf:aM fr dst r=aH)(k:SQ P call fl ops l aH σ K) :
  SQ P call fl ops (⟨dst,.unOp op t x,ty,pos,edges,guard⟩::l) fr σ K:=
 .step hw (qU rfl Bi) (hf▸k)
def aBL(P:Program)(u t:TypeId)(p:PD):Option PD:=if QV u t=true then YP P u t p else YQ P u t p
attribute [simp] aBL
theorem SQ.convert{u:TypeId}(hw:Region.wanted ⟨dst,.convert u t x,ty,pos,edges,guard⟩ (bA ops fr)=true)(hx:bF fr x=some p)(hr:aBL P u t p=some r)(hf:aM fr dst r=aH)(k:SQ P call fl ops l aH σ K) :
  SQ P call fl ops (⟨dst,.convert u t x,ty,pos,edges,guard⟩::l) fr σ K:=
 .step hw (by
  unfold aBL at hr;unfold bK pop;simp only[dO,dB,cS hx];split at hr
  .rename_i hc;rw[yAJ hc];simp only[cO,cS hx,hr];rw[yAJ hc]
  .rename_i hc;rw[yAI hc,hr]) (hf▸k)
theorem SQ.makeFunc{f:FuncId}{cap:Array Operand}{cs:Dq}(hw:Region.wanted ⟨dst,.makeFunc (.func f) #[] cap,ty,pos,edges,guard⟩ (bA ops fr)=true)(hx:ER fr cap.toList=some cs)(hf:aM fr dst (.func f cs)=aH)(k:SQ P call fl ops l aH σ K) :
  SQ P call fl ops (⟨dst,.makeFunc (.func f) #[] cap,ty,pos,edges,guard⟩::l) fr σ K:=
 .step hw (qU rfl (by simp[dB,MV hx])) (hf▸k)
theorem SQ.slice{lo hi mx:Option Operand}{lo' hi' YO:Option (Option PD)}(hw:Region.wanted ⟨dst,.slice t x lo hi mx,ty,pos,edges,guard⟩ (bA ops fr)=true)(hx:bF fr x=some p)(h1:MQ fr lo=some lo')(h2:MQ fr hi=some hi')(h3:MQ fr mx=some YO)
  (hr:GZ P t p lo' hi' YO=some r) (hf:aM fr dst r=aH) (k:SQ P call fl ops l aH σ K):SQ P call fl ops (⟨dst,.slice t x lo hi mx,ty,pos,edges,guard⟩::l) fr σ K:=by
 exact .step hw (qU rfl (by simp only[dB,cS hx,aEF h1,aEF h2,aEF h3,hr])) (hf▸k)
theorem SQ.fieldAddr{f:Nat}(hw:Region.wanted ⟨dst,.fieldAddr t x f,ty,pos,edges,guard⟩ (bA ops fr)=true)(hx:bF fr x=some p)(hr:OO P t p f=some r)(hf:aM fr dst r=aH)(k:SQ P call fl ops l aH σ K) :
  SQ P call fl ops (⟨dst,.fieldAddr t x f,ty,pos,edges,guard⟩::l) fr σ K:=
 .step hw (qU rfl Bi) (hf▸k)
theorem SQ.field{f:Nat}(hw:Region.wanted ⟨dst,.field t x f,ty,pos,edges,guard⟩ (bA ops fr)=true)(hx:bF fr x=some p)(hr:T8 P t p f=some r)(hf:aM fr dst r=aH)(k:SQ P call fl ops l aH σ K) :
  SQ P call fl ops (⟨dst,.field t x f,ty,pos,edges,guard⟩::l) fr σ K:=
 .step hw (qU rfl Bi) (hf▸k)
theorem SQ.indexAddr(hw:Region.wanted ⟨dst,.indexAddr t x y,ty,pos,edges,guard⟩ (bA ops fr)=true)(hx:bF fr x=some p)(hy:bF fr y=some q)(hr:MS P t p q=some r)(hf:aM fr dst r=aH)(k:SQ P call fl ops l aH σ K) :
  SQ P call fl ops (⟨dst,.indexAddr t x y,ty,pos,edges,guard⟩::l) fr σ K:=
 .step hw (qU rfl Ci) (hf▸k)
theorem SQ.index(hw:Region.wanted ⟨dst,.index t x y,ty,pos,edges,guard⟩ (bA ops fr)=true)(hx:bF fr x=some p)(hy:bF fr y=some q)(hr:MT P t p q=some r)(hf:aM fr dst r=aH)(k:SQ P call fl ops l aH σ K) :
  SQ P call fl ops (⟨dst,.index t x y,ty,pos,edges,guard⟩::l) fr σ K:=
 .step hw (qU rfl Ci) (hf▸k)
theorem SQ.extract{i:Nat}{vs:Dq}(hw:Region.wanted ⟨dst,.extract x i,ty,pos,edges,guard⟩ (bA ops fr)=true)(hx:bF fr x=some (.aI vs))(hr:vs[i]?=some r)(hf:aM fr dst r=aH)(k:SQ P call fl ops l aH σ K) :
  SQ P call fl ops (⟨dst,.extract x i,ty,pos,edges,guard⟩::l) fr σ K:=
 .step hw (qU rfl Bi) (hf▸k)
def PD.aJD:PD->Bool
 |.ptr _ _=>true
 |.cI _ _=>true
 |_=>false
theorem SQ.aSl(hw:Region.wanted ⟨dst,.nilCheck x,ty,pos,edges,guard⟩ (bA ops fr)=true)(hx:bF fr x=some p)(hp:p.aJD=true)(hf:aM fr dst p=aH)(k:SQ P call fl ops l aH σ K) :
  SQ P call fl ops (⟨dst,.nilCheck x,ty,pos,edges,guard⟩::l) fr σ K:=
 .step hw (qU rfl (by
  simp only[dB,cS hx];cases p<;>first|rfl|(cases hp;done))) (hf▸k)
theorem SQ.build{parts:Array (Nat×Operand)}{ps:List (Nat×PD)}(hw:Region.wanted ⟨dst,.build t parts,ty,pos,edges,guard⟩ (bA ops fr)=true)(hx:QU fr parts.toList=some ps)(hr:T9 P t ps=some r)(hf:aM fr dst r=aH)(k:SQ P call fl ops l aH σ K) :
  SQ P call fl ops (⟨dst,.build t parts,ty,pos,edges,guard⟩::l) fr σ K:=
 .step hw (qU rfl (by simp only[dB,aEE hx,hr])) (hf▸k)
theorem SQ.builtin{b:Builtin}{args:Array Operand}{ts:Array TypeId}{ps:Dq}(hw:Region.wanted ⟨dst,.call { callee:=.builtin b,args:=args,argTypes:=ts },ty,pos,edges,guard⟩ (bA ops fr)=true)(hx:ER fr args.toList=some ps)(hr:MU P b ts ps=some r)
  (hf:aM fr dst r=aH) (k:SQ P call fl ops l aH σ K):SQ P call fl ops (⟨dst,.call { callee:=.builtin b,args:=args,argTypes:=ts },ty,pos,edges,guard⟩::l) fr σ K:=
 .step hw (qU rfl (by simp only[dB,MV hx,hr])) (hf▸k)
theorem SQ.load(hw:Region.wanted ⟨dst,.load t x,ty,pos,edges,guard⟩ (bA ops fr)=true)(hx:bF fr x=some p)(hr:kW P σ t p=some r)(hf:aM fr dst r=aH)(k:SQ P call fl ops l aH σ K):SQ P call fl ops (⟨dst,.load t x,ty,pos,edges,guard⟩::l) fr σ K:=
 .step hw (ES rfl rfl (by simp only[cO,cS hx,hr])) (hf▸k)
theorem SQ.store(hw:Region.wanted ⟨dst,.store t x y,ty,pos,edges,guard⟩ (bA ops fr)=true)(hx:bF fr x=some p)(hy:bF fr y=some q)(hr:qO P fl σ t p q=some σ1)(hf:aM fr dst (.aI [])=aH)(k:SQ P call fl ops l aH σ1 K) :
  SQ P call fl ops (⟨dst,.store t x y,ty,pos,edges,guard⟩::l) fr σ K:=
 .step hw (ES rfl rfl (by simp only[cO,cS hx,cS hy,hr])) (hf▸k)
theorem SQ.alloc{p':PD}(hw:Region.wanted ⟨dst,.alloc t,ty,pos,edges,guard⟩ (bA ops fr)=true)(hx:dT P t=some p)(hp:p.cells.all PD.plain=true)(hb:boxed t p=p')(hr:σ++[.box p']=σ1){n:Nat}(hn:σ.length=n)(hf:aM fr dst (.ptr n 0)=aH)(k:SQ P call fl ops l aH σ1 K) :
  SQ P call fl ops (⟨dst,.alloc t,ty,pos,edges,guard⟩::l) fr σ K:=by
 subst hb hr hn;exact .step hw (ES rfl rfl (by simp only[cO,hx,hp,yAM])) (hf▸k)
theorem aSp{t:TypeId}{p:PD}(h:G0 t=false):nP t p=p:=by
 unfold nP;split
 .rw[h,yAI yx]
 .rfl
theorem SQ.box(hw:Region.wanted ⟨dst,.box t x,ty,pos,edges,guard⟩ (bA ops fr)=true)(ht:G0 t=false)(hx:bF fr x=some p)(hp:p.cells.all PD.plain=true)(hr:σ++[.box p]=σ1){n:Nat}(hn:σ.length=n)(hf:aM fr dst (.ptr n 0)=aH)(k:SQ P call fl ops l aH σ1 K) :
  SQ P call fl ops (⟨dst,.box t x,ty,pos,edges,guard⟩::l) fr σ K:=by
 subst hr hn;exact .step hw (ES rfl rfl (by simp only[cO,cS hx,hp,yAM,aSp ht])) (hf▸k)
theorem SQ.aEC{cs:Dq}(hw:Region.wanted ⟨dst,.box t x,ty,pos,edges,guard⟩ (bA ops fr)=true)(ht:G0 t=true)(hx:bF fr x=some (.agg cs))(hp:(PD.agg cs).cells.all PD.plain=true)(hr:σ++[.box (.typed t cs)]=σ1){n:Nat}(hn:σ.length=n)(hf:aM fr dst (.ptr n 0)=aH)(k:SQ P call fl ops l aH σ1 K) :
  SQ P call fl ops (⟨dst,.box t x,ty,pos,edges,guard⟩::l) fr σ K:=by
 subst hr hn;exact .step hw (ES rfl rfl (by simp only[cO,cS hx,hp,yAM,nP,ht])) (hf▸k)
theorem SQ.buildSlice{len:Nat}{parts:Array (Nat×Operand)}{ps:List (Nat×PD)}(hw:Region.wanted ⟨dst,.buildSlice t len parts,ty,pos,edges,guard⟩ (bA ops fr)=true)(hx:QU fr parts.toList=some ps)(hr:J7 P t len (ps.map λq=>(q.1,q.2.strip))=some r)
  (hf:aM fr dst r=aH) (k:SQ P call fl ops l aH σ K):SQ P call fl ops (⟨dst,.buildSlice t len parts,ty,pos,edges,guard⟩::l) fr σ K:=
 .step hw (ES rfl rfl (by simp only[cO,aEE hx,hr])) (hf▸k)
theorem SQ.append(hw:Region.wanted ⟨dst,.call { callee:=.builtin .append,args:=#[x,y],argTypes:=#[t,t] },ty,pos,edges,guard⟩ (bA ops fr)=true)(hx:bF fr x=some p)(hy:bF fr y=some q)
  (hr:(if qS t fr.length=true then nO P fr.length fl σ t p q else dX P fl σ t p q.strip)=some (r,σ1)) (hf:aM fr dst r=aH) (k:SQ P call fl ops l aH σ1 K):SQ P call fl ops (⟨dst,.call { callee:=.builtin .append,args:=#[x,y],argTypes:=#[t,t] },ty,pos,edges,guard⟩::l) fr σ K:=by
 refine .step hw (ES rfl ?_ ?_) (hf▸k)
 .simp only[dB,jQ,cS hx,cS hy,MU]
 .simp only[cO,jQ,cS hx,cS hy,yAM]
  by_cases hm:qS t fr.length=true
  .rw[yAJ hm]at hr;rw[hr]
  .rw[yAI hm]at hr;have:nO P fr.length fl σ t p q=none:=by unfold nO;rw[yAI hm]
   rw[this];exact hr
theorem SQ.gD{g:Operand}{args:Array Operand}{ts:Array TypeId}{f:FuncId}{cap ps:Dq}(hw:Region.wanted ⟨dst,.call { callee:=.value g,args:=args,argTypes:=ts },ty,pos,edges,guard⟩ (bA ops fr)=true)(hg:bF fr g=some (.func f cap))
  (hx:ER fr args.toList=some ps) (hr:call fl (.inl f) (ps++cap) σ=some (r,σ1)) (hf:aM fr dst r=aH) (k:SQ P call fl ops l aH σ1 K):SQ P call fl ops (⟨dst,.call { callee:=.value g,args:=args,argTypes:=ts },ty,pos,edges,guard⟩::l) fr σ K:=by
 refine .step hw ?_ (hf▸k);simp only[bK,dO,cS hg,MV hx,hr]
theorem aJ.mR{f:FuncId}{fn:Func}{c:Code}{args fr:Dq}{p:PD}(hE:E f=none)(hf:P.funcs[f]?=some fn)(hb:fn.body=some c)(hfr:args++List.replicate (fn.ntmps-args.length) (.aI [])=fr)
  (h:Wp P E none c 0 fr [] [] (λr=>∃p1 σ1,sX P 0 fn r=some (p1,σ1)/\p1.strip=p)):aJ P E f args p:=by
 subst hfr;exact aJ.body hE hf hb h
theorem cF.mR{f:FuncId}{fn:Func}{c:Code}{args:Dq}{R:PD->List U->Prop}(hE:E f=none)(hf:P.funcs[f]?=some fn)(hb:fn.body=some c)(hfr:args++List.replicate (fn.ntmps-args.length) (.aI [])=fr)
  (h:Wp P E none c fl fr [] σ (λr=>∃p1 σ1,sX P fl fn r=some (p1,σ1)/\R p1 σ1)):cF P E fl (.inl f) args σ R:=by
 subst hfr;exact cF.body hE hf hb h
theorem aJ.aV{f:FuncId}{fn:Func}{c:Code}{args fr:Dq}{p:PD}(n:Nat)(hE:E f=none)(hf:P.funcs[f]?=some fn)(hb:fn.body=some c:=by rfl)(hn:fn.ntmps=n:=by rfl)(hfr:args++List.replicate (n-args.length) (.aI [])=fr:=by(simp[List.replicate];rfl))
  (h:Wp P E none c 0 fr [] [] (λr=>∃p1 σ1,sX P 0 fn r=some (p1,σ1)/\p1.strip=p)):aJ P E f args p:=by
 subst hn;exact aJ.mR hE hf hb hfr h
theorem cF.aV{f:FuncId}{fn:Func}{c:Code}{args fr:Dq}{R:PD->List U->Prop}(n:Nat)(hE:E f=none)(hf:P.funcs[f]?=some fn)(hb:fn.body=some c:=by rfl)(hn:fn.ntmps=n:=by rfl)(hfr:args++List.replicate (n-args.length) (.aI [])=fr:=by(simp[List.replicate];rfl))
  (h:Wp P E none c fl fr [] σ (λr=>∃p1 σ1,sX P fl fn r=some (p1,σ1)/\R p1 σ1)):cF P E fl (.inl f) args σ R:=by
 subst hn;exact cF.mR hE hf hb hfr h
theorem Wp.dU{id:Nat}(h:SQ P (cW E) fl ops ops.toList fr σ (λfr' σ'=>Q ⟨.normal,fr',ms,σ'⟩)):Wp P E rd (.region id ops false) fl fr ms σ Q:=by
 obtain⟨fr',σ',h1,h2⟩:=h.ex;exact .region h1 h2
theorem Wp.aSj{id:Nat}(hU:aG E)(hs:(sV ops&&J6 ops)=true)(h:SQ P (fK E) fl ops ops.toList fr σ (λfr' σ'=>Q ⟨.normal,fr',ms,σ'⟩)):Wp P E rd (.region id ops true) fl fr ms σ Q:=by
 obtain⟨fr',σ',h1,h2⟩:=h.ex;exact .eI hU hs h1 h2
theorem Wp.aSk{id:Nat}(hs:(sV ops&&QT ops)=true)(h:SQ P (cW E) fl ops ops.toList fr σ (λfr' σ'=>Q ⟨.normal,fr',ms,σ'⟩)):Wp P E rd (.region id ops true) fl fr ms σ Q:=by
 obtain⟨fr',σ',h1,h2⟩:=h.ex;exact .jP hs h1 h2
structure aL (I:Nat->List PD->List U->Prop) (m:Nat) (ms:List Nat) (Q:PO->Prop) (r:PO):Prop where
 nx:r.x=.normal->r.ms=ms/\∃m',m'<m/\I m' r.fr r.σ
 out:r.x≠.normal->Q r
theorem aL.normal{I:Nat->List PD->List U->Prop}{m:Nat}(m':Nat)(h:m'<m)(k:I m' fr σ):aL I m ms Q ⟨.normal,fr,ms,σ⟩:=⟨λ_=>⟨rfl,m',h,k⟩,λe=>absurd rfl e⟩
theorem aL.ret{I:Nat->List PD->List U->Prop}{m:Nat}{ms':List Nat}(h:Q ⟨.ret,fr,ms',σ⟩):aL I m ms Q ⟨.ret,fr,ms',σ⟩:=⟨λe=>zh,λ_=>h⟩
theorem aL.exit{I:Nat->List PD->List U->Prop}{m k:Nat}{ms':List Nat}(h:Q ⟨.exit k,fr,ms',σ⟩):aL I m ms Q ⟨.exit k,fr,ms',σ⟩:=⟨λe=>zh,λ_=>h⟩
theorem Wp.dK{b:Code}(I:Nat->List PD->List U->Prop)(h:∀m fr σ,I m fr σ->Wp P E rd b fl fr ms σ (aL I m ms Q)):∀m {fr σ},I m fr σ->Wp P E rd (.loop b) fl fr ms σ Q:=by
 intro m
 induction m using Nat.strongRecOn with
 |ind m ih=>
  intro fr σ hi;refine Wp.loop ((h m fr σ hi).mono λr hr=>⟨λe=>?_,λe=>hr.out e⟩);obtain⟨e1,m',h1,h2⟩:=hr.nx e;rw[e1];exact ih m' h1 h2
end
end
section
section
variable{P:Program}{E:aE}{rd:Option Nat}{fl:Nat}{fr frA:Dq}{ms:List Nat}{σ:Dp}{Q:PO->Prop}
end
end
section
open Go.RowKit Go.ChangeShapes
theorem aJ.calls{P:Program}{E:aE}(hE:aF P E)(hP:P.follows .mixedOrders=true)(hN:∀(f:FuncId) fn,P.funcs[f]?=some fn->(fn.name== "runtime.NumGoroutine")=false)
  {f:FuncId} {args:Dq} {vs:Dt} {w:World} {b:Bool} (h:aJ P E f args (.bool b)) (hg:Gl (.start w)) (hv:aK (.start w) vs.toList args) :
  Calls P f vs w λe w'=>e=.returned (.bool b)/\Below w.heap.size w w':=by
 obtain⟨p1,σ1,⟨N,hN'⟩,hp⟩:=h;have hb:p1=.bool b:=by
  cases p1 with
  |slice n xs tok=>cases xs<;>simp[PD.strip]at hp
  |_=>simpa [PD.strip]using hp
 subst hb;have:=aSn hE hP hN (hN' N (yAk _)) hg hv;exact bp
section
variable{H:Type}{enc:TypeId×Value->H}{P:Program}
theorem aJE(hl:laidOutB P=true){W W':World}(hb:Below W.heap.size W W'):∀(ts:List TypeId) (vs:List Value) (ds:List (DataW H)) (ps:List MemPlace),(∀t∈ts,P.readableRec t=true/\t<P.types.size)->(∀x∈ps,x.block<W.heap.size) ->
  DataW.TrodAll enc P W 0 (λ_=>true) true ts vs ds ps->DataW.TrodAll enc P W' 0 (λb=>decide (b<W.heap.size)) true ts vs ds ps
 | [],[],[],_,_,_,h=>h
 |t::ts,v::vs,d::ds,ps,ht,hp,h=>by
  obtain⟨p,q,h1,h2,rfl⟩:=h;obtain⟨h3,h4⟩:=ht t yo;exact⟨p,q,Below.trod hl h3 h4 h1 hb (λx hx=>hp x (by simp[hx])),aJE hl hb ts vs ds q (λt' h'=>ht t' (by simp[h'])) (λx hx=>hp x (by simp[hx])) h2,rfl⟩
 | [],[],_::_,_,_,_,h=>h.elim
 | [],_::_,_,_,_,_,h=>zk
 |_::_,[],_,_,_,_,h=>zk
 |_::_,_::_,[],_,_,_,h=>h.elim
theorem aRA(hl:laidOutB P=true){f:Func}{s:ChangeSpec}{W W':World}{args:Dt}{ds gs:List (DataW H)}{before:List MemPlace}{tb:TypeId}(hvars:s.vars=[])
  (hW:DataW.Whole enc P f.params.toList s.vars false W args.toList ds gs before) (hb:Below W.heap.size W W') (hres:f.resultTypes=#[tb]) (htb:P.underlying tb=some .bool)
  (hps:(f.params.toList.all λt=>P.readableRec t&&decide (t<P.types.size))=true) (hs:∀ds:List (DataW H),gs=[]->ds.length=f.params.size->s.fn H (ds++gs)={ results:=[.lit (.bool true)],args:=ds }) :
  s.post enc P f false true false false W args (.bool true) W':=by
 have hW':=hW;obtain⟨p,q,hA,hV,rfl,hfz,hnd⟩:=hW;rw[hvars]at hV;obtain⟨rfl,rfl⟩:gs=[]/\q=[]:=by
  cases gs with
  |nil=>exact⟨rfl,hV⟩
  |cons g r=>exact absurd hV (by intro h;cases h)
 have hlen:ds.length=f.params.size:=by
  have:∀(ts:List TypeId) (vs:List Value) (ds:List (DataW H)) (ps:List MemPlace),DataW.TrodAll enc P W 0 (λ_=>true) true ts vs ds ps->ds.length=ts.length:=by
   intro ts
   induction ts with
   |nil=>
    intro vs ds ps h;cases vs<;>cases ds<;>first|rfl|(exact h.elim)|cases h
   |cons t ts ih=>
    intro vs ds ps h;cases vs with
    |nil=>cases h
    |cons v vs=>
     cases ds with
     |nil=>exact h.elim
     |cons d ds=>
      obtain⟨p,q,_,h2,_⟩:=h;simp[ih vs ds q h2]
  have:=this _ _ _ _ hA;exact bp
 have e:=hs ds rfl hlen;have hlt:∀x∈p,x.block<W.heap.size:=λx hx=>by simpa using hW'.lt x Ac
 refine⟨ds,[],_,[],p,[],hW',?_,?_,?_,hb.frame _,λh=>zk⟩
 .rw[e,hres];exact trodAll_mk1 (shut_bool htb true)
 .rw[e];exact aJE hl hb _ _ _ _ (λt ht=>by simpa using yAn.1 hps t ht) hlt hA
 .rw[e,hvars];rfl
end
end
section
structure By (p:Prop):Prop where
 h:p
structure Fr (p:Prop):Prop where
 h:p
structure Wt (p:Prop):Prop where
 h:p
structure Ns (p:Prop):Prop where
 h:p
theorem By.i{p:Prop}(h:p):By p:=⟨h⟩
theorem Fr.i{p:Prop}(h:p):Fr p:=⟨h⟩
theorem Wt.i{p:Prop}(h:p):Wt p:=⟨h⟩
theorem Ns.i{p:Prop}(h:p):Ns p:=⟨h⟩
section
variable{P:Program}{E:aE}{call:b9}{rd:Option Nat}{fl:Nat}{fr aH:Dq}{ms:List Nat}{σ σ1:Dp}{Q:PO->Prop}{ops:Du}{K:List PD->List U->Prop}{l:List Oper}{dst:Option Tmp}
 {ty:TypeId} {pos:String} {edges:Array Edge} {guard:Option (Nat×Bool)} {t:TypeId} {x y:Operand} {p q r:PD}
theorem SL.move(hw:Wt (Region.wanted ⟨dst,.move x,ty,pos,edges,guard⟩ (bA ops fr)=true))(hx:bF fr x=some p)(hf:Fr (aM fr dst p=aH))(k:SQ P call fl ops l aH σ K):SQ P call fl ops (⟨dst,.move x,ty,pos,edges,guard⟩::l) fr σ K:=SQ.move hw.h hx hf.h k
theorem SL.assign(hw:Wt (Region.wanted ⟨dst,.assign x,ty,pos,edges,guard⟩ (bA ops fr)=true))(hx:bF fr x=some p)(hf:Fr (aM fr dst p=aH))(k:SQ P call fl ops l aH σ K):SQ P call fl ops (⟨dst,.assign x,ty,pos,edges,guard⟩::l) fr σ K:=SQ.assign hw.h hx hf.h k
theorem SL.pick{c:Operand}{b:Bool}(hw:Wt (Region.wanted ⟨dst,.pick c x y,ty,pos,edges,guard⟩ (bA ops fr)=true))(hc:bF fr c=some (.bool b))(hx:cond b (bF fr x) (bF fr y)=some p)(hf:Fr (aM fr dst p=aH))(k:SQ P call fl ops l aH σ K) :
  SQ P call fl ops (⟨dst,.pick c x y,ty,pos,edges,guard⟩::l) fr σ K:=SQ.pick hw.h hc hx hf.h k
theorem SL.binOp{op:BinOp}{u:TypeId}(hw:Wt (Region.wanted ⟨dst,.binOp op t x y u,ty,pos,edges,guard⟩ (bA ops fr)=true))(hx:bF fr x=some p)(hy:bF fr y=some q)(hr:By (eO P op t p q=some r))(hf:Fr (aM fr dst r=aH))(k:SQ P call fl ops l aH σ K) :
  SQ P call fl ops (⟨dst,.binOp op t x y u,ty,pos,edges,guard⟩::l) fr σ K:=SQ.binOp hw.h hx hy hr.h hf.h k
theorem SL.gC{e:TypeId}{b:Bool}{u:TypeId}(hw:Wt (Region.wanted ⟨dst,.binOp .eql t x (.const (.slice none 0 0)) u,ty,pos,edges,guard⟩ (bA ops fr)=true))(hx:bF fr x=some p)(hu:By (P.underlying t=some (.slice e)))(hb:By (GY p=some b))(hf:Fr (aM fr dst (.bool b)=aH))(k:SQ P call fl ops l aH σ K) :
  SQ P call fl ops (⟨dst,.binOp .eql t x (.const (.slice none 0 0)) u,ty,pos,edges,guard⟩::l) fr σ K:=SQ.gC hw.h hx hu.h hb.h hf.h k
theorem SL.make{e:TypeId}{k1 k2:IntKind}{a b:Int}(hw:Wt (Region.wanted ⟨dst,.makeSlice t x y,ty,pos,edges,guard⟩ (bA ops fr)=true))(hx:bF fr x=some (.int k1 a))(hy:bF fr y=some (.int k2 b))(hu:By (P.underlying t=some (.slice e)))(ha:Wt (0<=a/\0<=b))
  (hr:By (xS P σ t e a.toNat b.toNat=some (r,σ1))) (hf:Fr (aM fr dst r=aH)) (k:SQ P call fl ops l aH σ1 K):SQ P call fl ops (⟨dst,.makeSlice t x y,ty,pos,edges,guard⟩::l) fr σ K:=SQ.make hw.h hx hy hu.h ha.h hr.h hf.h k
theorem SL.unOp{op:UnOp}(hw:Wt (Region.wanted ⟨dst,.unOp op t x,ty,pos,edges,guard⟩ (bA ops fr)=true))(hx:bF fr x=some p)(hr:By (T7 op p=some r))(hf:Fr (aM fr dst r=aH))(k:SQ P call fl ops l aH σ K) :
  SQ P call fl ops (⟨dst,.unOp op t x,ty,pos,edges,guard⟩::l) fr σ K:=SQ.unOp hw.h hx hr.h hf.h k
theorem SL.convert{u:TypeId}(hw:Wt (Region.wanted ⟨dst,.convert u t x,ty,pos,edges,guard⟩ (bA ops fr)=true))(hx:bF fr x=some p)(hr:By (aBL P u t p=some r))(hf:Fr (aM fr dst r=aH))(k:SQ P call fl ops l aH σ K) :
  SQ P call fl ops (⟨dst,.convert u t x,ty,pos,edges,guard⟩::l) fr σ K:=SQ.convert hw.h hx hr.h hf.h k
theorem SL.makeFunc{f:FuncId}{cap:Array Operand}{cs:Dq}(hw:Wt (Region.wanted ⟨dst,.makeFunc (.func f) #[] cap,ty,pos,edges,guard⟩ (bA ops fr)=true))(hx:ER fr cap.toList=some cs)(hf:Fr (aM fr dst (.func f cs)=aH))(k:SQ P call fl ops l aH σ K) :
  SQ P call fl ops (⟨dst,.makeFunc (.func f) #[] cap,ty,pos,edges,guard⟩::l) fr σ K:=SQ.makeFunc hw.h hx hf.h k
theorem SL.slice{lo hi mx:Option Operand}{lo' hi' YO:Option (Option PD)}(hw:Wt (Region.wanted ⟨dst,.slice t x lo hi mx,ty,pos,edges,guard⟩ (bA ops fr)=true))(hx:bF fr x=some p)(h1:MQ fr lo=some lo')(h2:MQ fr hi=some hi')(h3:MQ fr mx=some YO)
  (hr:By (GZ P t p lo' hi' YO=some r)) (hf:Fr (aM fr dst r=aH)) (k:SQ P call fl ops l aH σ K):SQ P call fl ops (⟨dst,.slice t x lo hi mx,ty,pos,edges,guard⟩::l) fr σ K:=SQ.slice hw.h hx h1 h2 h3 hr.h hf.h k
theorem SL.fieldAddr{f:Nat}(hw:Wt (Region.wanted ⟨dst,.fieldAddr t x f,ty,pos,edges,guard⟩ (bA ops fr)=true))(hx:bF fr x=some p)(hr:By (OO P t p f=some r))(hf:Fr (aM fr dst r=aH))(k:SQ P call fl ops l aH σ K) :
  SQ P call fl ops (⟨dst,.fieldAddr t x f,ty,pos,edges,guard⟩::l) fr σ K:=SQ.fieldAddr hw.h hx hr.h hf.h k
theorem SL.field{f:Nat}(hw:Wt (Region.wanted ⟨dst,.field t x f,ty,pos,edges,guard⟩ (bA ops fr)=true))(hx:bF fr x=some p)(hr:By (T8 P t p f=some r))(hf:Fr (aM fr dst r=aH))(k:SQ P call fl ops l aH σ K) :
  SQ P call fl ops (⟨dst,.field t x f,ty,pos,edges,guard⟩::l) fr σ K:=SQ.field hw.h hx hr.h hf.h k
theorem SL.indexAddr(hw:Wt (Region.wanted ⟨dst,.indexAddr t x y,ty,pos,edges,guard⟩ (bA ops fr)=true))(hx:bF fr x=some p)(hy:bF fr y=some q)(hr:By (MS P t p q=some r))(hf:Fr (aM fr dst r=aH))(k:SQ P call fl ops l aH σ K) :
  SQ P call fl ops (⟨dst,.indexAddr t x y,ty,pos,edges,guard⟩::l) fr σ K:=SQ.indexAddr hw.h hx hy hr.h hf.h k
theorem SL.index(hw:Wt (Region.wanted ⟨dst,.index t x y,ty,pos,edges,guard⟩ (bA ops fr)=true))(hx:bF fr x=some p)(hy:bF fr y=some q)(hr:By (MT P t p q=some r))(hf:Fr (aM fr dst r=aH))(k:SQ P call fl ops l aH σ K) :
  SQ P call fl ops (⟨dst,.index t x y,ty,pos,edges,guard⟩::l) fr σ K:=SQ.index hw.h hx hy hr.h hf.h k
theorem SL.extract{i:Nat}{vs:Dq}(hw:Wt (Region.wanted ⟨dst,.extract x i,ty,pos,edges,guard⟩ (bA ops fr)=true))(hx:bF fr x=some (.aI vs))(hr:vs[i]?=some r)(hf:Fr (aM fr dst r=aH))(k:SQ P call fl ops l aH σ K) :
  SQ P call fl ops (⟨dst,.extract x i,ty,pos,edges,guard⟩::l) fr σ K:=SQ.extract hw.h hx hr hf.h k
theorem SL.nilCheck(hw:Wt (Region.wanted ⟨dst,.nilCheck x,ty,pos,edges,guard⟩ (bA ops fr)=true))(hx:bF fr x=some p)(hp:Wt (p.aJD=true))(hf:Fr (aM fr dst p=aH))(k:SQ P call fl ops l aH σ K) :
  SQ P call fl ops (⟨dst,.nilCheck x,ty,pos,edges,guard⟩::l) fr σ K:=SQ.aSl hw.h hx hp.h hf.h k
theorem SL.build{parts:Array (Nat×Operand)}{ps:List (Nat×PD)}(hw:Wt (Region.wanted ⟨dst,.build t parts,ty,pos,edges,guard⟩ (bA ops fr)=true))(hx:QU fr parts.toList=some ps)(hr:By (T9 P t ps=some r))(hf:Fr (aM fr dst r=aH))(k:SQ P call fl ops l aH σ K) :
  SQ P call fl ops (⟨dst,.build t parts,ty,pos,edges,guard⟩::l) fr σ K:=SQ.build hw.h hx hr.h hf.h k
theorem SL.builtin{b:Builtin}{args:Array Operand}{ts:Array TypeId}{ps:Dq}(hw:Wt (Region.wanted ⟨dst,.call { callee:=.builtin b,args:=args,argTypes:=ts },ty,pos,edges,guard⟩ (bA ops fr)=true))(hx:ER fr args.toList=some ps)(hr:By (MU P b ts ps=some r))
  (hf:Fr (aM fr dst r=aH)) (k:SQ P call fl ops l aH σ K):SQ P call fl ops (⟨dst,.call { callee:=.builtin b,args:=args,argTypes:=ts },ty,pos,edges,guard⟩::l) fr σ K:=SQ.builtin hw.h hx hr.h hf.h k
theorem SL.load(hw:Wt (Region.wanted ⟨dst,.load t x,ty,pos,edges,guard⟩ (bA ops fr)=true))(hx:bF fr x=some p)(hr:By (kW P σ t p=some r))(hf:Fr (aM fr dst r=aH))(k:SQ P call fl ops l aH σ K):SQ P call fl ops (⟨dst,.load t x,ty,pos,edges,guard⟩::l) fr σ K:=SQ.load hw.h hx hr.h hf.h k
theorem SL.store(hw:Wt (Region.wanted ⟨dst,.store t x y,ty,pos,edges,guard⟩ (bA ops fr)=true))(hx:bF fr x=some p)(hy:bF fr y=some q)(hr:By (qO P fl σ t p q=some σ1))(hf:Fr (aM fr dst (.aI [])=aH))(k:SQ P call fl ops l aH σ1 K) :
  SQ P call fl ops (⟨dst,.store t x y,ty,pos,edges,guard⟩::l) fr σ K:=SQ.store hw.h hx hy hr.h hf.h k
theorem SL.alloc{p':PD}(hw:Wt (Region.wanted ⟨dst,.alloc t,ty,pos,edges,guard⟩ (bA ops fr)=true))(hx:By (dT P t=some p))(hp:p.cells.all PD.plain=true)(hb:By (boxed t p=p'))(hr:Ns (σ++[.box p']=σ1)){n:Nat}(hn:Ns (σ.length=n))(hf:Fr (aM fr dst (.ptr n 0)=aH))(k:SQ P call fl ops l aH σ1 K) :
  SQ P call fl ops (⟨dst,.alloc t,ty,pos,edges,guard⟩::l) fr σ K:=SQ.alloc hw.h hx.h hp hb.h hr.h hn.h hf.h k
theorem SL.box(hw:Wt (Region.wanted ⟨dst,.box t x,ty,pos,edges,guard⟩ (bA ops fr)=true))(ht:Wt (G0 t=false))(hx:bF fr x=some p)(hp:p.cells.all PD.plain=true)(hr:Ns (σ++[.box p]=σ1)){n:Nat}(hn:Ns (σ.length=n))(hf:Fr (aM fr dst (.ptr n 0)=aH))(k:SQ P call fl ops l aH σ1 K) :
  SQ P call fl ops (⟨dst,.box t x,ty,pos,edges,guard⟩::l) fr σ K:=SQ.box hw.h ht.h hx hp hr.h hn.h hf.h k
theorem SL.aEC{cs:Dq}(hw:Wt (Region.wanted ⟨dst,.box t x,ty,pos,edges,guard⟩ (bA ops fr)=true))(ht:Wt (G0 t=true))(hx:bF fr x=some (.agg cs))(hp:(PD.agg cs).cells.all PD.plain=true)(hr:Ns (σ++[.box (.typed t cs)]=σ1)){n:Nat}(hn:Ns (σ.length=n))(hf:Fr (aM fr dst (.ptr n 0)=aH))(k:SQ P call fl ops l aH σ1 K) :
  SQ P call fl ops (⟨dst,.box t x,ty,pos,edges,guard⟩::l) fr σ K:=SQ.aEC hw.h ht.h hx hp hr.h hn.h hf.h k
theorem SL.buildSlice{len:Nat}{parts:Array (Nat×Operand)}{ps:List (Nat×PD)}(hw:Wt (Region.wanted ⟨dst,.buildSlice t len parts,ty,pos,edges,guard⟩ (bA ops fr)=true))(hx:QU fr parts.toList=some ps)(hr:By (J7 P t len (ps.map λq=>(q.1,q.2.strip))=some r))
  (hf:Fr (aM fr dst r=aH)) (k:SQ P call fl ops l aH σ K):SQ P call fl ops (⟨dst,.buildSlice t len parts,ty,pos,edges,guard⟩::l) fr σ K:=SQ.buildSlice hw.h hx hr.h hf.h k
theorem SL.append(hw:Wt (Region.wanted ⟨dst,.call { callee:=.builtin .append,args:=#[x,y],argTypes:=#[t,t] },ty,pos,edges,guard⟩ (bA ops fr)=true))(hx:bF fr x=some p)(hy:bF fr y=some q)
  (hr:By ((if qS t fr.length=true then nO P fr.length fl σ t p q else dX P fl σ t p q.strip)=some (r,σ1))) (hf:Fr (aM fr dst r=aH)) (k:SQ P call fl ops l aH σ1 K):SQ P call fl ops (⟨dst,.call { callee:=.builtin .append,args:=#[x,y],argTypes:=#[t,t] },ty,pos,edges,guard⟩::l) fr σ K:=SQ.append hw.h hx hy hr.h hf.h k
theorem SL.gD{g:Operand}{args:Array Operand}{ts:Array TypeId}{f:FuncId}{cap ps:Dq}(hw:Wt (Region.wanted ⟨dst,.call { callee:=.value g,args:=args,argTypes:=ts },ty,pos,edges,guard⟩ (bA ops fr)=true))(hg:bF fr g=some (.func f cap))
  (hx:ER fr args.toList=some ps) (hr:By (call fl (.inl f) (ps++cap) σ=some (r,σ1))) (hf:Fr (aM fr dst r=aH)) (k:SQ P call fl ops l aH σ1 K):SQ P call fl ops (⟨dst,.call { callee:=.value g,args:=args,argTypes:=ts },ty,pos,edges,guard⟩::l) fr σ K:=SQ.gD hw.h hg hx hr.h hf.h k
theorem SL.pass{op:Op}{g:Nat×Bool}(hw:Wt (Region.wanted ⟨dst,op,ty,pos,edges,some g⟩ (bA ops fr)=false))(hf:Fr (aM fr dst (.aI [])=aH))(k:SQ P call fl ops l aH σ K):SQ P call fl ops (⟨dst,op,ty,pos,edges,some g⟩::l) fr σ K:=
 SQ.pass (o:=⟨dst,op,ty,pos,edges,some g⟩) hw.h hf.h k
def ML(ops:Array Oper):Bool:=ops.toList.all λo=>match o.op with
 |.call { callee:=.value (.tmp _),.. }=>false
 |.call { callee:=.value (.func f),.. }=>!aSm f
 |.panic _=>false
 |_=>true
theorem WL.kN{id:Nat}{y:Code}(_hs:ML ops=true)(h:SQ P (cW E) fl ops ops.toList fr σ (λfr' σ'=>Wp P E rd y fl fr' ms σ' Q)):Wp P E rd (.seq (.region id ops false) y) fl fr ms σ Q:=by
 obtain⟨fr',σ',h1,h2⟩:=h.ex;exact .seq (.region h1 (.normal h2))
theorem WL.eI{id:Nat}{y:Code}(hU:aG E)(_hd:ML ops=true)(hs:(sV ops&&J6 ops)=true)(h:SQ P (fK E) fl ops ops.toList fr σ (λfr' σ'=>Wp P E rd y fl fr' ms σ' Q)):Wp P E rd (.seq (.region id ops true) y) fl fr ms σ Q:=by
 obtain⟨fr',σ',h1,h2⟩:=h.ex;exact .seq (.eI hU hs h1 (.normal h2))
theorem WL.jP{id:Nat}{y:Code}(_hd:ML ops=true)(hs:(sV ops&&QT ops)=true)(h:SQ P (cW E) fl ops ops.toList fr σ (λfr' σ'=>Wp P E rd y fl fr' ms σ' Q)):Wp P E rd (.seq (.region id ops true) y) fl fr ms σ Q:=by
 obtain⟨fr',σ',h1,h2⟩:=h.ex;exact .seq (.jP hs h1 (.normal h2))
theorem WL.lC{id:Nat}(_hs:ML ops=true)(h:SQ P (cW E) fl ops ops.toList fr σ (λfr' σ'=>Q ⟨.normal,fr',ms,σ'⟩)):Wp P E rd (.region id ops false) fl fr ms σ Q:=.dU h
theorem WL.ct{g:Operand}{x y:Code}(hg:bF fr g=some (.bool true))(h1:Wp P E rd x fl fr ms σ Q):Wp P E rd (.cond g x y) fl fr ms σ Q:=.cond_true (cS hg) h1
theorem WL.cf{g:Operand}{x y:Code}(hg:bF fr g=some (.bool false))(h1:Wp P E rd y fl fr ms σ Q):Wp P E rd (.cond g x y) fl fr ms σ Q:=.cond_false (cS hg) h1
theorem qT{c:Prop}{σ σ':Dp}{fr:Dq}{A:(Nat->PD)->Dq}(hc:c)(h:fr=A (λn=>fr.getD n (.aI [])))(hs:σ=σ'):∃g:Nat->PD,c/\fr=A g/\σ=σ':=⟨_,hc,h,hs⟩
end
theorem bV{c:Prop}{σ σ':Dp}{fr:Dq}{A:(Nat->PD)->Dq}(hc:c)(h:fr=A (λn=>fr.getD n (.aI [])):=by(first|rfl|(simp[];repeat(first|rfl|(apply And.intro)))|(simp[];done)))(hs:σ=σ':=by(first|rfl|(simp[];repeat(first|rfl|(apply And.intro)))|(simp[];done))):∃g:Nat->PD,c/\fr=A g/\σ=σ':=⟨_,hc,h,hs⟩
theorem fL{X c:Prop}{σ σ':Dp}{fr:Dq}{A:(Nat->PD)->Dq}(hc:c)(gx:X)(h:X->fr=A (λn=>fr.getD n (.aI [])):=by(intro gx;first|rfl|(simp[gx];repeat(first|rfl|(apply And.intro)))|(simp[gx];done)))(hs:X->σ=σ':=by(intro gx;first|rfl|(simp[gx];repeat(first|rfl|(apply And.intro)))|(simp[gx];done))):∃g:Nat->PD,c/\fr=A g/\σ=σ':=⟨_,hc,h gx,hs gx⟩
end
theorem WL.lA{P:Program}{E:aE}{rd:Option Nat}{fl:Nat}{fr:Dq}{ms:List Nat}{σ:Dp}{Q:PO->Prop}{ops:Du}{id:Nat}(hU:aG E)(_hd:ML ops=true)(hs:(sV ops&&J6 ops)=true)(h:SQ P (fK E) fl ops ops.toList fr σ (λfr' σ'=>Q ⟨.normal,fr',ms,σ'⟩)) :
  Wp P E rd (.region id ops true) fl fr ms σ Q:=.aSj hU hs h
theorem WL.lB{P:Program}{E:aE}{rd:Option Nat}{fl:Nat}{fr:Dq}{ms:List Nat}{σ:Dp}{Q:PO->Prop}{ops:Du}{id:Nat}(_hd:ML ops=true)(hs:(sV ops&&QT ops)=true)(h:SQ P (cW E) fl ops ops.toList fr σ (λfr' σ'=>Q ⟨.normal,fr',ms,σ'⟩)) :
  Wp P E rd (.region id ops true) fl fr ms σ Q:=.aSk hs h
section
inductive CK where
 |b
 |i (k:IntKind)
 |s
def MO(c:Bool):Option Bool->Option Bool
 |some d=>some (c&&d)
 |none=>none
def lO:List CK->List PD->List PD->Option Bool
 | [],[],[]=>some true
 |.b::ks,.bool a::xs,.bool b::ys=>MO (decide (a=b)) (lO ks xs ys)
 |.i k::ks,.int k1 a::xs,.int k2 b::ys=>if k1=k/\k2=k then MO (decide (a=b)) (lO ks xs ys)else none
 |.s::ks,.str a::xs,.str b::ys=>MO (decide (a=b)) (lO ks xs ys)
 |_,_,_=>none
def YN(pl:TypeId->Option (List CK))(P:Program):Nat->List Field->Option (List CK)
 |_,[]=>some []
 |off,f::fs=>if f.name= "_" \/ f.offset≠off then none else
  match pl f.type,bI P f.type with
  |some ks,some n=>if ks.length=n/\0<n then(match YN pl P (off+n) fs with|some r=>some (ks++r)|none=>none)else none
  |_,_=>none
def EP(P:Program):Nat->TypeId->Option (List CK)
 |0,_=>none
 |d+1,t=>match P.underlying t with
  |some .bool=>some [.b]
  |some (.int k)=>some [.i k]
  |some .string=>some [.s]
  |some (.struct fs)=>if P.stoodInHeld t then none else YN (EP P d) P 0 fs.toList
  |some (.array len e)=>match EP P d e,bI P e with
   |some ks,some n=>if ks.length=n/\0<n then some (List.replicate len ks).flatten else none
   |_,_=>none
  |_=>none
def QS(P:Program)(t:TypeId)(x:PD)(xs:List PD):Prop:=(fR P t=some true/\x=.agg xs)\/(fR P t=some false/\xs=[x])
theorem aJB:∀ {xs ys:Dq} {b:Bool},lO [] xs ys=some b->b=true
 | [],[],b,h=>by simp only[lO,yAb]at h;exact h.symm
 | [],_::_,_,h=>by simp[lO]at h
 |_::_,_,_,h=>by simp[lO]at h
theorem aEz:∀(ks r:List CK) (xs ys:List PD) (b:Bool),lO (ks++r) xs ys=some b ->
  ∃b1 b2,lO ks (xs.take ks.length) (ys.take ks.length)=some b1/\lO r (xs.drop ks.length) (ys.drop ks.length)=some b2/\b=(b1&&b2)/\ks.length<=xs.length/\ks.length<=ys.length
 | [],r,xs,ys,b,h=>⟨true,b,rfl,h,yo,yo,yo⟩
 |k::ks,r,xs,ys,b,h=>by
  have key:∀(c:Bool) (us vs:List PD),MO c (lO (ks++r) us vs)=some b->∃b1 b2,MO c (lO ks (us.take ks.length) (vs.take ks.length))=some b1/\lO r (us.drop ks.length) (vs.drop ks.length)=some b2/\b=(b1&&b2)/\ks.length<=us.length/\ks.length<=vs.length:=by
   intro c us vs hc;cases h1:lO (ks++r) us vs with
   |none=>rw[h1]at hc;cases hc
   |some d=>
    rw[h1]at hc;simp only[MO,yAb]at hc;obtain⟨b1,b2,e1,e2,e3,e4,e5⟩:=aEz ks r us vs d h1;exact⟨c&&b1,b2,Bt,e2,by rw[<-hc,e3,Bool.and_assoc],e4,e5⟩
  match k,xs,ys,h with
  |.b,.bool a::xs,.bool a'::ys,h=>
    exact me
  |.i k,.int k1 a::xs,.int k2 a'::ys,h=>
    simp only[yAR,lO]at h;split at h
    .rename_i hk;obtain⟨b1,b2,e1,e2,e3,e4,e5⟩:=key _ xs ys h;exact⟨b1,b2,by simpa only[yAK,yDa,lO,yAJ hk]using e1,e2,e3,by simpa using e4,by simpa using e5⟩
    .cases h
  |.s,.str a::xs,.str a'::ys,h=>
    exact me
section
variable{P:Program}
theorem aSi{d:Nat}{t:TypeId}{ks:List CK}(h:EP P d t=some ks):(fR P t=some true)\/(fR P t=some false/\ks.length=1):=by
 cases d with
 |zero=>cases h
 |succ d=>
  unfold EP at h;unfold fR;split at h<;>rename_i hu<;>try simp only[hu]
  .right;simp only[yAb]at h;subst h;exact⟨trivial,rfl⟩
  .right;simp only[yAb]at h;subst h;exact⟨trivial,rfl⟩
  .right;simp only[yAb]at h;subst h;exact⟨trivial,rfl⟩
  .left;trivial
  .left;trivial
  .cases h
theorem aJC{d:Nat}{t:TypeId}{ks:List CK}(h:EP P d t=some ks)(hs:bI P t=some ks.length){xs:Dq}{off:Nat}(hl:off+ks.length<=xs.length):∃x,nN P t xs off=some x/\QS P t x ((xs.drop off).take ks.length):=by
 rcases aSi h with ha | ⟨ha,h1⟩
 .exact⟨_,by simp only[nN,ha,hs,hl,yAM],.inl ⟨ha,rfl⟩⟩
 .rw[h1]at hl;have hlt:off<xs.length:=ym;refine⟨xs[off],by simp only[nN,ha,hs,yAh hlt],.inr ⟨ha,?_⟩⟩;rw[h1,yAq hlt];rfl
theorem aEA:∀(d:Nat) (t:TypeId) (ks:List CK) (x y:PD) (xs ys:List PD) (b:Bool),EP P d t=some ks->QS P t x xs->QS P t y ys->lO ks xs ys=some b->mA P d t x y=some b
 |0,_,_,_,_,_,_,_,h,_,_,_=>zk
 |d+1,t,ks,x,y,xs,ys,b,h,hx,hy,hc=>by
  unfold EP at h;unfold mA;have fin:∀ {z:PD} {zs:Dq},QS P t z zs->fR P t=some true->z=.agg zs:=λhz ha=>by
   rcases hz with⟨_,e⟩ | ⟨e,_⟩
   .exact e
   .rw[ha]at e;cases e
  have one:∀ {z:PD} {zs:Dq},QS P t z zs->fR P t=some false->zs=[z]:=λhz ha=>by
   rcases hz with⟨e,_⟩ | ⟨_,e⟩
   .rw[ha]at e;cases e
   .exact e
  split at h<;>rename_i hu<;>try simp only[hu]
  .simp only[yAb]at h;subst h;have ha:fR P t=some false:=Bp;rw[one hx ha,one hy ha]at hc;cases x<;>cases y<;>simp only[lO,reduceCtorEq]at hc ⊢
   simpa [MO,BEq.beq]using hc
  .rename_i k;simp only[yAb]at h;subst h;have ha:fR P t=some false:=Bp;rw[one hx ha,one hy ha]at hc;cases x<;>cases y<;>simp only[lO,reduceCtorEq]at hc ⊢
   split at hc
   .rename_i hk;rw[yAJ (hk.1.trans hk.2.symm)];simpa [MO,BEq.beq]using hc
   .cases hc
  .simp only[yAb]at h;subst h;have ha:fR P t=some false:=Bp;rw[one hx ha,one hy ha]at hc;cases x<;>cases y<;>simp only[lO,reduceCtorEq]at hc ⊢
   simp only[MO,yCg,yAb]at hc;rw[<-hc];congr 1;rw[Bool.eq_iff_iff];simp
  .rename_i fs;split at h
   .cases h
   .rename_i hst;have ha:fR P t=some true:=Bp;obtain rfl:=fin hx ha;obtain rfl:=fin hy ha;simp only[hst,yAx,yAO];have key:∀(fs:List Field) (off:Nat) (r:List CK) (b:Bool),YN (EP P d) P off fs=some r->lO r (xs.drop off) (ys.drop off)=some b->MP (mA P d) P xs ys fs=some b:=by
     intro fs
     induction fs with
     |nil=>
      intro off r b hr hb;simp only[YN,yAb]at hr;subst hr;unfold MP;rw[aJB hb]
     |cons f fs ih=>
      intro off r b hr hb;simp only[YN]at hr;split at hr
      .cases hr
      .rename_i hn;have OM:¬f.name= "_" := λe=>hn (.inl e)
       have hn2:f.offset=off:=by
        rcases Nat.decEq f.offset off with e|e
        .exact absurd (.inr e) hn
        .exact e
       split at hr
       .rename_i ks n h1 h2;split at hr
        .rename_i hlen;split at hr
         .rename_i r' h3;simp only[yAb]at hr;subst hr;obtain⟨b1,b2,e1,e2,e3,e4,e5⟩:=aEz _ _ _ _ _ hb;obtain⟨hlen,hpos⟩:=hlen;have hpart:∀ {zs:Dq},ks.length<=(zs.drop off).length->∃x,nN P f.type zs off=some x/\QS P f.type x ((zs.drop off).take ks.length):=by
           intro zs hz;exact rz
          obtain⟨x1,p1,c1⟩:=hpart e4;obtain⟨y1,p2,c2⟩:=hpart e5;have q:=aEA d f.type ks x1 y1 _ _ b1 h1 c1 c2 e1;unfold MP;rw[yAI OM,hn2];simp only[p1,p2,q];rw[yBq,yBq,hlen]at e2;have q2:=ih (off+n) r' b2 h3 e2;exact qv
         .cases hr
        .cases hr
       .cases hr
    exact key fs.toList 0 ks b h (by simpa using hc)
  .rename_i len e;split at h
   .rename_i ks' n h1 h2;split at h
    .rename_i hlen;simp only[yAb]at h;subst h;have ha:fR P t=some true:=Bp;obtain rfl:=fin hx ha;obtain rfl:=fin hy ha;simp only[h2];have key:∀(m i:Nat) (b:Bool),lO (List.replicate m ks').flatten (xs.drop (i*n)) (ys.drop (i*n))=some b->ON (mA P d e) P e n xs ys i m=some b:=by
      intro m
      induction m with
      |zero=>
       intro i b hb;unfold ON;simp only[List.replicate_zero,List.flatten_nil]at hb;rw[aJB hb]
      |succ m ih=>
       intro i b hb;rw[List.replicate_succ,yD]at hb;obtain⟨b1,b2,e1,e2,e3,e4,e5⟩:=aEz _ _ _ _ _ hb;obtain⟨hlen,hpos⟩:=hlen;have hpart:∀ {zs:Dq},ks'.length<=(zs.drop (i*n)).length->∃x,nN P e zs (i*n)=some x/\QS P e x ((zs.drop (i*n)).take ks'.length):=by
        intro zs hz;exact rz
       obtain⟨x1,p1,c1⟩:=hpart e4;obtain⟨y1,p2,c2⟩:=hpart e5;have q:=aEA d e ks' x1 y1 _ _ b1 h1 c1 c2 e1;unfold ON;simp only[p1,p2,q];rw[yBq,yBq,hlen,<-yCJ]at e2;have q2:=ih (i+1) b2 e2;exact qv
     exact key len 0 b (by simpa using hc)
    .cases h
   .cases h
  .cases h
theorem aEB{t:TypeId}{ks:List CK}{xs ys:Dq}{b:Bool}(hg:P.eqGuardType P.depth t=false)(h:EP P 12 t=some ks)(ha:fR P t=some true)(hc:lO ks xs ys=some b) :
  eO P .eql t (.agg xs) (.agg ys)=some (.bool b):=by
 have:=aEA 12 t ks _ _ _ _ b h (.inl ⟨ha,rfl⟩) (.inl ⟨ha,rfl⟩) hc;simp only[eO,sW,hg,yAx,yAO,this]
end
end
section
section
variable{α:Type}{e:Em α}{k:Nat}{tok:Tok}
def Em.aBK(e:Em α):List PD->Option (List α)
 | []=>some []
 |p::ps=>match e.dec p,e.aBK ps with
  |some x,some xs=>some (x::xs)
  |_,_=>none
@[simp] theorem a5K:e.aBK []=some []:=rfl
@[simp] theorem a5L{p:PD}{ps:Dq}:e.aBK (p::ps)=(match e.dec p,e.aBK ps with|some x,some xs=>some (x::xs)|_,_=>none):=rfl
end
end
section
open Go.RowKit
def OL(pl:TypeId->Bool)(P:Program):Nat->List Field->Option Nat
 |off,[]=>some off
 |off,f::fs=>if f.offset=off/\pl f.type=true then OL pl P (off+P.cellsOf f.type) fs else none
def vE(P:Program):Nat->TypeId->Bool
 |0,_=>false
 |d+1,t=>match P.underlying t with
  |some .bool|some (.int _)|some .string=>P.cellsOf t==1
  |some (.slice e)=>P.cellsOf t==1&&vE P d e&&decide (0<P.cellsOf e)
  |some (.struct fs)=>OL (vE P d) P 0 fs.toList==some (P.cellsOf t)
  |some (.array n e)=>vE P d e&&P.cellsOf t==n*P.cellsOf e
  |_=>false
def EO(T:TypeId->List PD->Prop):List Field->List PD->Prop
 | [],ps=>ps=[]
 |f::fs,ps=>∃a b,ps=a++b/\T f.type a/\EO T fs b
def mQ(P:Program)(t:TypeId)(ps:List PD):PD:=match fR P t with
 |some true=>.agg ps
 |_=>ps.headD (.aI [])
def Typed(P:Program):Nat->TypeId->List PD->Prop
 |0,_,_=>False
 |d+1,t,ps=>match P.underlying t with
  |some .bool=>∃b,ps=[.bool b]
  |some (.int k)=>∃n,ps=[.int k n]/\(Lit.int k n).wf=true
  |some .string=>∃s,ps=[.str s]/\s.length<=maxLen
  |some (.slice e)=>∃xs:List (List PD),xs.length<=maxLen/\(∀x∈xs,Typed P d e x)/\ps=[.slice (sz (P.cellsOf e) xs) (xs.map (mQ P e)) .any]
  |some (.struct fs)=>EO (Typed P d) fs.toList ps
  |some (.array n e)=>∃xs:List (List PD),xs.length=n/\(∀x∈xs,Typed P d e x)/\ps=xs.flatten
  |_=>False
theorem EO.length{P:Program}{d:Nat}(ih:∀t ps,vE P d t=true->Typed P d t ps->ps.length=P.cellsOf t):∀(fs:List Field) (off n:Nat) (ps:List PD),OL (vE P d) P off fs=some n->EO (Typed P d) fs ps->off+ps.length=n
 | [],off,n,ps,h,ht=>by
   simp only[OL,yAb]at h;simp only[EO]at ht;subst ht h;rfl
 |f::fs,off,n,ps,h,ht=>by
  simp only[OL]at h;split at h
  .rename_i hf;obtain⟨a,b,rfl,ha,hb⟩:=ht;have h1:=ih _ _ hf.2 ha;have h2:=EO.length ih fs _ n b h hb;simp only[yAa];omega
  .cases h
theorem Typed.length{P:Program}:∀(d:Nat) (t:TypeId) (ps:List PD),vE P d t=true->Typed P d t ps->ps.length=P.cellsOf t
 |0,_,_,h,_=>zk
 |d+1,t,ps,h,ht=>by
  unfold vE at h;unfold Typed at ht;split at h<;>rename_i hu<;>try simp only[hu]at ht
  .obtain⟨b,rfl⟩:=ht;simp at h;simp[h]
  .obtain⟨b,rfl,_⟩:=ht;simp at h;simp[h]
  .obtain⟨b,rfl,_⟩:=ht;simp at h;simp[h]
  .obtain⟨xs,_,_,rfl⟩:=ht;simp at h;simp[h]
  .simp only[yBI]at h;have:=EO.length (Typed.length d) _ 0 _ ps h ht;omega
  .rename_i n e;simp only[yAr,yBI]at h;obtain⟨xs,h1,h2,rfl⟩:=ht;rw[h.2,<-h1];have key:∀(xs:List (List PD)),(∀x∈xs,Typed P d e x)->xs.flatten.length=xs.length*P.cellsOf e:=by
    intro xs
    induction xs with
    |nil=>intro _;simp
    |cons x xs ih=>
     intro hx;rw[yD,yAa,Typed.length d e x h.1 (hx x yo),ih (λy hy=>hx y Cl),yAK,yCJ];omega
   exact key xs h2
section
variable{H:Type}{enc:TypeId×Value->H}{P:Program}{w:World}{base:Nat}{sp:Nat->Bool}{held:Bool}
structure l8 (w:World) (cs:List Value) (ps:List PD):Prop where
 T5:aK (.start w) cs ps
 one:∀v∈cs,v.oneCell'=true
theorem l8.nil:l8 w [] []:=⟨⟨rfl,yo⟩,yo⟩
theorem l8.single{v:Value}{p:PD}(h:VR (.start w) v p)(ho:v.oneCell'=true):l8 w [v] [p]:=
 ⟨⟨rfl,λi u d h1 h2=>by cases i with
   |zero=>simp at h1 h2;subst h1 h2;exact h
   |succ i=>simp at h1⟩,Aq⟩
theorem l8.append{a b:Ds}{ps qs:Dq}(h:l8 w a ps)(k:l8 w b qs):l8 w (a++b) (ps++qs):=
 ⟨h.T5.append k.T5,λv hv=>(yBv.1 hv).elim (h.one v) (k.one v)⟩
theorem l8.agg{cs:Ds}{ps:Dq}(h:l8 w cs ps):VR (.start w) (.agg cs.toArray) (.agg ps):=.agg cs ps h.T5.1 h.one h.T5.2
theorem aSg{t:TypeId}{d:Nat}{ps:Dq}(h:vE P d t=true)(ht:Typed P d t ps):(mQ P t ps).cells=ps:=by
 cases d with
 |zero=>cases h
 |succ d=>
  unfold vE at h;unfold Typed at ht;unfold mQ fR;split at h<;>rename_i hu<;>try simp only[hu]at ht ⊢
  .obtain⟨b,rfl⟩:=ht;rfl
  .obtain⟨b,rfl,_⟩:=ht;rfl
  .obtain⟨b,rfl,_⟩:=ht;rfl
  .obtain⟨xs,_,_,rfl⟩:=ht;rfl
  .rfl
  .rfl
theorem aSh{fuel:Nat}{t:TypeId}{cs:Ds}{x:DataW H×List MemPlace}(ht:P.underlying t=some .bool)(h:DataW.trod enc P w base sp held fuel t cs=some x):∃b,cs=[.bool b]:=by
 cases fuel with
 |zero=>simp[DataW.trod]at h
 |succ n=>
  unfold DataW.trod at h;rw[ht]at h;split at h<;>simp_all
theorem aBJ:∀(fuel d:Nat) (t:TypeId) (cs:List Value) (x:DataW H×List MemPlace),DataW.trod enc P w base sp held fuel t cs=some x->vE P d t=true->∃ps,Typed P d t ps/\l8 w cs ps
 |_,0,_,_,_,_,h=>zk
 |fuel,d+1,t,cs,x,hx,h=>by
  unfold vE at h;split at h<;>rename_i hu<;>try simp only[Typed,hu]
  .obtain⟨b,rfl⟩:=aSh hu hx;exact⟨_,⟨b,rfl⟩,l8.single (.bool _) rfl⟩
  .rename_i k;obtain⟨n,rfl,_,hw⟩:=DataW.trod_int hu hx;exact⟨_,⟨n,rfl,hw⟩,l8.single (.int _ _) rfl⟩
  .obtain⟨s,rfl,_,hs⟩:=DataW.trod_string hu hx;refine⟨_,⟨s.data.toList,rfl,by rw[yCf];exact hs⟩,l8.single ?_ rfl⟩;exact so
  .rename_i e;simp only[yAr,yBC]at h;obtain⟨⟨_,he⟩,hpos⟩:=h;rcases DataW.trod_slice hu hx with⟨rfl,_⟩ | ⟨a,len,cap,elems,rest,n,rfl,rfl,hrest⟩
   .exact⟨_,⟨[],yo,yo,rfl⟩,l8.single (.slice none 0 0 0 [] .any [] rfl (yAk _) (yAF _) yo rfl yo yo yo trivial) rfl⟩
   .obtain⟨_,hlc,hcm,hel,hall,_,_⟩:=hrest.2;have key:∀(k i:Nat),i+k=len->∃(ys:List (List PD)) (fl:List Value),ys.length=k/\(∀y∈ys,Typed P d e y)/\l8 w fl ys.flatten/\fl.length=k*P.cellsOf e /\
      ∀(j:Nat) (v:Value),fl[j]?=some v->w.cell? (a.add (i*P.cellsOf e+j))=some v:=by
     intro k
     induction k with
     |zero=>intro i _;exact⟨[],[],rfl,yo,l8.nil,yo,yo⟩
     |succ k ih=>
      intro i hi;obtain⟨ys,fl,h1,h2,h3,h4,h5⟩:=ih (i+1) ym;have h6:=hall i ym;have hlt:i<elems.length:=ym;rw[yAh hlt,Option.bind_eq_some_iff]at h6;obtain⟨vs,h7,h8⟩:=h6;obtain⟨_,h9,h10⟩:=World.cells?_some h7;obtain⟨qs,h11,h12⟩:=aBJ n d e _ _ h8 he;refine⟨qs::ys,vs++fl,by simp[h1],by simpa using⟨h11,h2⟩,by rw[yD];exact h12.append h3,by rw[yAa,h9,h4,yCJ];omega,λj v hv=>?_⟩;rcases yBF j vs.length with hj|hj
      .rw[yAg hj]at hv;have:=h10 j ym;rw[QR]at this;rw[this,hv]
      .rw[yCo hj]at hv;have:=h5 _ v hv;rw[h9]at this hj;rw[<-this,yCJ]
       congr 2
       omega
    obtain⟨ys,fl,h1,h2,h3,h4,h5⟩:=key len 0 ym;have hcells:∀y∈ys,(mQ P e y).cells=y:=λy hy=>aSg he (h2 y hy)
    have hflat:(ys.map (mQ P e)).flatMap PD.cells=ys.flatten:=by
     have:∀(ys:List (List PD)),(∀y∈ys,(mQ P e y).cells=y)->(ys.map (mQ P e)).flatMap PD.cells=ys.flatten:=by
      intro ys
      induction ys with
      |nil=>intro _;rfl
      |cons y ys ih=>
       intro hy;rw[yAX,yBg,yD,hy y yo,ih (λz hz=>hy z (by simp[hz]))]
     exact this ys hcells
    refine⟨_,⟨ys,ym,h2,rfl⟩,l8.single (.slice (some a) len cap _ _ .any fl (by simp[h1]) hlc hcm ?_ ?_ h3.one ?_ ?_ trivial) rfl⟩
    .intro x hx;obtain⟨y,hy,rfl⟩:=yAw.1 hx;rw[hcells y hy,Typed.length d e y he (h2 y hy),T6 (List.ne_nil_of_mem hy)]
    .rw[h4];cases ys with
     |nil=>simp at h1;subst h1;simp
     |cons y ys=>simp[sz]
    .intro j v hv;have:=h5 j v hv;rw[Nat.zero_mul,yAp]at this;exact⟨a,rfl,this,aJA _⟩
    .intro j v p hv hp;rw[hflat]at hp;exact h3.T5.2 j v p hv hp
  .rename_i fs;simp only[yBI]at h;obtain⟨xs,n,rfl,_,hl,hn,hf⟩:=DataW.trod_struct hu hx;have key:∀(gs:List Field) (i:Nat) (off m:Nat),gs=fs.toList.drop i->OL (vE P d) P off gs=some m->m<=cs.length->off<=m/\∃ps,EO (Typed P d) gs ps/\l8 w ((cs.drop off).take (m-off)) ps:=by
    intro gs
    induction gs with
    |nil=>
     intro i off m _ hp hm;simp only[OL,yAb]at hp;subst hp;exact⟨yAk _,[],rfl,by simpa using l8.nil⟩
    |cons g gs ih=>
     intro i off m hg hp hm;simp only[OL]at hp;split at hp
     .rename_i hc;have hgi:fs[i]?=some g:=by
       have:(fs.toList.drop i)[0]?=some g:=by rw[<-hg];rfl
       exact bp
      have hgs:gs=fs.toList.drop (i+1):=by
       rw[<-List.tail_drop,<-hg];rfl
      obtain⟨h1,ps,h2,h3⟩:=ih (i+1) _ m hgs hp hm;have h4:=hf i g hgi;have hlt:i<xs.length:=by
       rw[hn];exact(yDr.1 hgi).1
      rw[yAh hlt]at h4;obtain⟨qs,h5,h6⟩:=aBJ n d g.type _ _ h4 hc.2;refine⟨ym,qs++ps,⟨qs,ps,rfl,h5,h2⟩,?_⟩;rw[hc.1]at h6;have e:(cs.drop off).take (m-off)=(cs.drop off).take (P.cellsOf g.type)++(cs.drop (off+P.cellsOf g.type)).take (m-(off+P.cellsOf g.type)):=by
       have:m-off=P.cellsOf g.type+(m-(off+P.cellsOf g.type)):=ym;rw[this,List.take_add,yBq]
      rw[e];exact h6.append h3
     .cases hp
   obtain⟨_,ps,h1,h2⟩:=key fs.toList 0 0 _ yo h ym;refine⟨ps,h1,?_⟩;simpa [<-hl]using h2
  .rename_i n e;simp only[yAr,yBI]at h;obtain⟨xs,m,rfl,_,hl,hn,hf⟩:=DataW.trod_array hu hx;have key:∀(k i:Nat),i+k=n->∃ys:List (List PD),ys.length=k/\(∀y∈ys,Typed P d e y)/\l8 w (cs.drop (i*P.cellsOf e)) ys.flatten:=by
    intro k
    induction k with
    |zero=>
     intro i hi;have:cs.drop (i*P.cellsOf e)=[]:=yAs (by rw[hl,h.2];simp at hi;subst hi;omega);exact⟨[],rfl,yo,by rw[this];exact l8.nil⟩
    |succ k ih=>
     intro i hi;obtain⟨ys,h1,h2,h3⟩:=ih (i+1) ym;have h4:=hf i ym;have hlt:i<xs.length:=ym;rw[yAh hlt]at h4;obtain⟨qs,h5,h6⟩:=aBJ m d e _ _ h4 h.1;refine⟨qs::ys,by simp[h1],by simpa using⟨h5,h2⟩,?_⟩;rw[yD];have e':cs.drop (i*P.cellsOf e)=(cs.drop (i*P.cellsOf e)).take (P.cellsOf e)++cs.drop ((i+1)*P.cellsOf e):=by
      rw[yCJ,<-yBq,yCK]
     rw[e'];exact h6.append h3
   obtain⟨ys,h1,h2,h3⟩:=key n 0 ym;exact⟨_,⟨ys,h1,h2,rfl⟩,Ax⟩
  .cases h
end
end
section
open Go.RowKit
section
variable{H:Type}{enc:TypeId×Value->H}{P:Program}{w:World}{base:Nat}{sp:Nat->Bool}{held:Bool}
theorem aRt{n:Nat}{t:TypeId}{v:Value}{d:DataW H}{ms:List MemPlace}(hp:vE P n t=true)(hv:Value.okWide P w .any base t v)(h:DataW.Trod enc P w 0 sp held t v d ms) :
  ∃qs,Typed P n t qs/\VR (.start w) v (mQ P t qs):=by
 obtain⟨fuel,h⟩:=h;obtain⟨qs,h1,h2⟩:=aBJ fuel n t _ _ h hp;refine⟨qs,h1,?_⟩;have hlen:=Typed.length n t qs hp h1;cases n with
 |zero=>cases hp
 |succ n=>
  have cell:fR P t=some false->(∀cs,v≠.agg cs)->VR (.start w) v (mQ P t qs):=λha hna=>by
   have hc:v.cells=#[v]:=by
    cases v<;>first|rfl|exact absurd rfl (hna _)
   rw[hc]at h2;obtain⟨hl,hr⟩:=h2.T5
   match qs,hl with
   | [q],_=>
     have:=hr 0 v q rfl rfl;simpa only[mQ,ha,List.headD_cons]using this
  have row:fR P t=some true->(∃cs,v=.agg cs)->VR (.start w) v (mQ P t qs):=λha ⟨cs,e⟩=>by
   subst e;have:=h2.agg;simpa only[mQ,ha,Value.cells]using this
  unfold vE at hp;unfold Value.okWide at hv;split at hp<;>rename_i hu
  .exact cw
  .exact cw
  .exact cw
  .exact cw
  .exact rm
  .exact rm
  .cases hp
end
section
variable{P:Program}
theorem o1{d:Nat}{t:TypeId}{k:IntKind}{qs:Dq}(hu:P.underlying t=some (.int k))(h:Typed P (d+1) t qs):∃n,qs=[.int k n]/\(Lit.int k n).wf=true:=by
 simpa only[Typed,hu]using h
theorem aJd{d:Nat}{t:TypeId}{qs:Dq}(hu:P.underlying t=some .bool)(h:Typed P (d+1) t qs):∃b,qs=[.bool b]:=by
 simpa only[Typed,hu]using h
theorem YF{d:Nat}{t:TypeId}{fs:Array Field}{qs:Dq}(hu:P.underlying t=some (.struct fs))(h:Typed P (d+1) t qs):EO (Typed P d) fs.toList qs:=by
 simpa only[Typed,hu]using h
theorem aBB{α:Type}{em:Em α}{R:α->Prop}{d:Nat}{t e:TypeId}{k:Nat}{qs:Dq}(hu:P.underlying t=some (.slice e))(hk:P.cellsOf e=k)(hf:∀x,Typed P d e x->∃y,mQ P e x=em.aA y/\R y)(h:Typed P (d+1) t qs) :
  ∃ys,qs=[(em.list k).aA ys]/\ys.length<=maxLen/\∀y∈ys,R y:=by
 simp only[Typed,hu]at h;obtain⟨xs,h1,h2,rfl⟩:=h;have key:∀xs:List (List PD),(∀x∈xs,Typed P d e x)->∃ys:List α,ys.length=xs.length/\xs.map (mQ P e)=ys.map em.aA/\∀y∈ys,R y:=by
  intro xs
  induction xs with
  |nil=>intro _;exact⟨[],rfl,rfl,yo⟩
  |cons x xs ih=>
   intro hx;obtain⟨ys,h3,h4,h5⟩:=ih (λz hz=>hx z (by simp[hz]));obtain⟨y,h6,h7⟩:=hf x (hx x yo);exact⟨y::ys,by simp[h3],by simp[h4,h6],by simpa using⟨h7,h5⟩⟩
 obtain⟨ys,h3,h4,h5⟩:=key xs h2;refine⟨ys,?_,ym,h5⟩;rw[eN,h4,hk];have:sz k xs=sz k ys:=by simp only[sz,h3]
 rw[this]
theorem YH{t:TypeId}{qs:Dq}(ha:fR P t=some true):mQ P t qs=.agg qs:=by simp only[mQ,ha]
theorem nK{T:TypeId->List PD->Prop}{f:Field}{fs:List Field}{ps:Dq}(h:EO T (f::fs) ps):∃a b,ps=a++b/\T f.type a/\EO T fs b:=h
theorem YG{T:TypeId->List PD->Prop}{ps:Dq}(h:EO T [] ps):ps=[]:=h
theorem wf_u8{z:Int}(hz:(Lit.int .u8 z).wf=true):0<=z/\z<=255:=by
 simp only[Lit.wf,IntKind.min,IntKind.max,IntKind.signed,IntKind.bits]at hz;simp at hz;omega
theorem aRz{c:Cx}:aK c [] []:=⟨rfl,yo⟩
theorem aRy{c:Cx}{v:Value}{p:PD}{vs:Ds}{ps:Dq}(h:VR c v p)(hs:aK c vs ps):aK c (v::vs) (p::ps):=
 ⟨by simp[hs.1],λi u d hu hd=>by
  cases i with
  |zero=>simp at hu hd;subst hu hd;exact h
  |succ i=>exact hs.2 i u d Am Av⟩
end
end
section
section
variable{α:Type}{l r:List α}{x y:α}{n:Nat}
end
end
@[simp] theorem a5J{α:Type}{k:Nat}{xs:List α}:sz (sz k xs) xs=sz k xs:=by
  unfold sz;split<;>rfl
def iB(σ:List U)(tok:Tok)(e:TypeId)(k n:Nat):Prop:=(n=0/\tok=.full)\/(0<n/\∃id,tok=.own id/\σ[id]?=some (.own e k n))
def Tok.not(tok:Tok)(id:Nat):Prop:=tok≠.own id
theorem iB.MM{σ σ':Dp}{tok:Tok}{e:TypeId}{k n:Nat}(h:iB σ tok e k n)(hk:∀id o,tok=.own id->σ[id]?=some o->σ'[id]?=some o):iB σ' tok e k n:=by
 rcases h with h | ⟨h0,id,h1,h2⟩
 .exact .inl h
 .exact .inr ⟨h0,id,h1,hk id _ h1 h2⟩
theorem iB.more{σ τ:Dp}{tok:Tok}{e:TypeId}{k n:Nat}(h:iB σ tok e k n):iB (σ++τ) tok e k n:=
 h.MM λid o _ h=>by
  rw[yAg (yA.1 h).1];exact h
theorem vD{P:Program}{σ:Dp}{t e:TypeId}{k b s:Nat}{xs:Dq}{p:PD}{tk tok:Tok}(hu:P.underlying t=some (.slice e))(hi:qR P e=some (k,b))(hs:xs=[]\/s=k)(hr:iB σ tok e k xs.length)
  (hm:xs.length+1<=100000000000000) (hb:(xs.length+1)*b<=140737488355328) :
  ∃bP σ',dX P 0 σ t (.slice s xs tok) (.slice k [p] tk)=some (.slice k (xs++[p]) bP,σ')/\iB σ' bP e k (xs.length+1)/\(∀id o,tok≠.own id->σ[id]?=some o->σ'[id]?=some o)/\(∀id,bP=.own id->tok=.own id\/id=σ.length):=by
 unfold qR at hi;split at hi
 .rename_i i h1;split at hi
  .rename_i z h2;split at hi
   .rename_i h3;simp only[yAb,yAc]at hi;obtain⟨rfl,rfl⟩:=hi;have hs':xs.length=0\/s=i.size:=hs.imp (λh=>zn) (λh=>h);have e1:[p].length=1:=rfl;have hmm:xs.length+1<=maxLen:=zy;rcases hr with⟨hn,rfl⟩ | ⟨hpos,id,rfl,hid⟩
    .refine⟨.own σ.length,σ++[.own e i.size (xs.length+1)],?_,.inr ⟨ym,_,rfl,yAB⟩,λid o _ h=>?_,λid h=>?_⟩
     .simp only[dX,hu,h1,h2,e1,hs',h3.2,h3.1,hmm,hb,or_true,yCw,yAM,Nat.one_ne_zero,yAO]
     .rw[yAg (yA.1 h).1];exact h
     .right;simpa using h.symm
    .have hlt:=(yA.1 hid).1;have hsz:s=i.size:=hs'.resolve_left ym;refine⟨.own id,σ.set id (.own e i.size (xs.length+1)),?_,.inr ⟨ym,id,rfl,by rw[yAj hlt]⟩,λj o hj h=>?_,λj h=>.inl h⟩
     .simp only[dX,hu,h1,h2,e1,h3.2,h3.1,hmm,hb,or_true,yCw,yAM,Nat.one_ne_zero,yAO,hsz,yAF,hid]
     .have hne:id≠j:=λe=>hj (by rw[e])
      rw[yAd hne];exact h
   .cases hi
  .cases hi
 .cases hi
section
def YL:Op->Bool
 |.box ..=>true
 |.call { callee:=.builtin .append,.. }=>true
 |.call { callee:=.builtin .copy,.. }=>true
 |_=>false
def OK(ops:Array Oper):Bool:=vC ops.toList [] λms=>
 (List.range ops.size).all λi=>!eL YL ops.toList i||gH ops.toList ms i
section
variable{P:Program}{E:aE}{fl:Nat}{fr:Dq}{σ:Dp}
theorem aJy(hU:aG E){tg:FuncId ⊕ Nat}{args:Dq}{x:PD×Dp}(h:fK E fl tg args σ=some x):cW E fl tg args σ=some x:=by
 cases tg with
 |inr id=>cases h
 |inl f=>
  simp only[fK]at h;split at h
  .rename_i g hg;split at h
   .rename_i p hp;simp only[yAb]at h;subst h;simp only[cW,hg];exact hU f g args p hg hp fl σ
   .cases h
  .cases h
theorem aJz(hU:aG E){op:Op}{x:PD×Dp}(h:bK P (fK E) fl fr σ op=some x):bK P (cW E) fl fr σ op=some x:=by
 unfold bK at *;cases hc:dO fr op with
 |some q=>
  obtain⟨tg,args⟩:=q;simp only[hc]at h ⊢;exact aJy hU h
 |none=>
  simp only[hc]at h ⊢;exact h
theorem YM(hU:aG E){ops:Du}:∀(l:List Oper) (i:Nat) (fr:List PD) (σ:List U) (x:Dq×List U),ops.toList.drop i=l->OK ops=true ->
  dS P (fK E) fl ops l fr σ=some x->nM P (cW E) fl ops (flags ops i l) fr σ=some x
 | [],_,_,_,_,_,_,h=>h
 |o::l,i,fr,σ,x,hd,hm,h=>by
  have ho:ops.toList[i]?=some o:=by
   exact vp
  have hd':ops.toList.drop (i+1)=l:=Cv;have hi:i<ops.size:=by
   have:=(yA.1 ho).1;exact bp
  have hown:YL o.op=false\/EN ops i=true:=by
   have hm':=hm;rw[OK,o4]at hm';exact gv
  simp only[dS]at h;simp only[flags,nM];split at h
  .rename_i hw;rw[yAJ hw];split at h
   .rename_i p σ1 hp;cases hf:(!cR o.op||EN ops i)with
    |true=>
     simp only[aJz hU hp];exact YM hU l (i+1) _ _ _ hd' hm h
    |false=>
     simp only[yDL,Bool.not_eq_false']at hf;obtain⟨eY,qQ⟩:=hf;rw[qQ]at hown;have hop:YL o.op=false:=by simpa using hown
     obtain⟨e1,e2⟩:=QP (P:=P) hU (cE:=max fl σ.length) (op:=o.op) (by
      cases hq:o.op with
      |box t x=>rw[hq]at hop;cases hop
      |call c=>
       exact jb
      |_=>rfl) eY hp
     simp only at e2;subst e2;simp only[e1,yCe,yAl];exact YM hU l (i+1) _ _ _ hd' hm h
   .cases h
  .rename_i hw;rw[yAI hw];exact YM hU l (i+1) _ _ _ hd' hm h
theorem WL.kY{rd:Option Nat}{ms:List Nat}{Q:PO->Prop}{ops:Du}{id:Nat}(hU:aG E)(_hd:ML ops=true)(hs:(sV ops&&OK ops)=true)(h:SQ P (fK E) fl ops ops.toList fr σ (λfr' σ'=>Q ⟨.normal,fr',ms,σ'⟩)) :
  Wp P E rd (.region id ops true) fl fr ms σ Q:=by
 simp only[yAr,T4]at hs;obtain⟨fr',σ',h1,h2⟩:=h.ex;exact .draw hs.1 (YM hU _ 0 _ _ _ yo hs.2 h1) h2
theorem WL.kZ{rd:Option Nat}{ms:List Nat}{Q:PO->Prop}{ops:Du}{id:Nat}{y:Code}(hU:aG E)(_hd:ML ops=true)(hs:(sV ops&&OK ops)=true)(h:SQ P (fK E) fl ops ops.toList fr σ (λfr' σ'=>Wp P E rd y fl fr' ms σ' Q)) :
  Wp P E rd (.seq (.region id ops true) y) fl fr ms σ Q:=by
 simp only[yAr,T4]at hs;obtain⟨fr',σ',h1,h2⟩:=h.ex;exact .seq (.draw hs.1 (YM hU _ 0 _ _ _ yo hs.2 h1) (.normal h2))
end
end
section
def T2(ops:Array Oper):Bool:=ops.toList.all λo=>!bT o.op||o.guard.isNone
def aEw(ops:Array Oper):Bool:=vC ops.toList [] λms=>
 EM ops ms&&(List.range ops.size).all λk=>!eL eU ops.toList k||(List.range ops.size).all λi=>!eL dE ops.toList i||!loose ms i k
section
variable{P:Program}{E:aE}{fl:Nat}{fr:Dq}{σ:Dp}
theorem aJr(hU:aG E){cE:Nat}{σ2:Dp}{op:Op}{x:PD×Dp}(hop:(match op with
 |.box ..=>false
 |.call { callee:=.builtin .append,.. }=>false
 |.call { callee:=.builtin .copy,.. }=>false
 |_=>true)=true) (hm:cR op=true) (h:bK P (fK E) fl fr σ op=some x):bK P (cW E) cE fr σ2 op=some (x.1,σ2)/\x.2=σ:=by
 refine⟨?_,(QP hU (cE:=0) hop hm h).2⟩;unfold bK at *;cases hc:dO fr op with
 |some q=>
  obtain⟨tg,args⟩:=q;simp only[hc]at h ⊢;cases tg with
  |inr id=>cases h
  |inl f=>
   simp only[fK]at h;split at h
   .rename_i g hg;split at h
    .rename_i p hp;simp only[yAb]at h;subst h;simp only[cW,hg];exact hU f g args p hg hp cE σ2
    .cases h
   .cases h
 |none=>
  exact dx
theorem aSc{t:TypeId}{a p:PD}(hs:List U)(h:kW P σ t a=some p):kW P (σ++hs) t a=some p:=
 aJs h λid e=>by
  rw[yAg (aJt h e)]
theorem aSd{t:TypeId}{a p:PD}{σ':Dp}(hs:List U)(h:qO P fl σ t a p=some σ'):qO P fl (σ++hs) t a p=some (σ'++hs):=by
 unfold qO at h ⊢;split at h
 .rename_i id off
  by_cases h1:fl<=id
  .rw[yAJ h1]at h ⊢;cases hq:σ[id]? with
   |none=>simp[hq]at h
   |some o=>
    have hlt:id<σ.length:=(yA.1 hq).1;rw[yAg hlt,hq];rw[hq]at h;cases o with
    |box q=>
     cases hz:bI P t with
     |none=>rw[hz]at h;cases h
     |some n=>
      rw[hz]at h;simp only at h ⊢;split at h
      .rename_i hc;rw[yAJ hc];cases hset:q.setCells off p.cells with
       |none=>rw[hset]at h;cases h
       |some q'=>
        rw[hset]at h;exact uh
      .cases h
    |_=>cases h
  .rw[yAI h1]at h;cases h
 .rename_i id ver off
  by_cases h1:fl<=id
  .rw[yAJ h1]at h ⊢;cases hq:σ[id]? with
   |none=>simp[hq]at h
   |some o=>
    have hlt:id<σ.length:=(yA.1 hq).1;rw[yAg hlt,hq];rw[hq]at h;cases o with
    |row e sz fH cs=>
     cases hz:bI P t with
     |none=>rw[hz]at h;cases h
     |some n=>
      rw[hz]at h;simp only at h ⊢;split at h
      .rename_i hc;rw[yAJ hc];exact uh
      .cases h
    |_=>cases h
  .rw[yAI h1]at h;cases h
 .cases h
theorem YK(hU:aG E){n:Nat}{ops:Du}(ms:List Nat)(hsh:∀(i:Nat) o,ops[i]?=some o->(dF o.op||dE o.op||bT o.op||jO o.op||dJ o.op)=true)(hno:J6 ops=true)(hsu:T2 ops=true) :
  ∀(l:List Oper) (i:Nat) (fr:List PD) (σ:List U) (x:Dq×List U),ops.toList.drop i=l->dS P (fK E) fl ops l fr σ=some x ->
   ∃hs tr,j6 P l=some hs/\eM P (cD P E n) fl ops ms i σ.length l fr (σ++hs)=some (tr,x.1,x.2)
 | [],_,fr,σ,x,_,h=>by
   simp only[dS,yAb]at h;subst h;exact⟨[],[],rfl,by simp[eM]⟩
 |o::l,i,fr,σ,x,hd,h=>by
  have ho:ops[i]?=some o:=by
   exact vp
  have hd':ops.toList.drop (i+1)=l:=Cv;have hmem:o∈ops.toList:=yBV.2 (yCX ho);have hshape:=hsh i o ho;have hown:=yAn.1 hno o hmem;have hsure:=yAn.1 hsu o hmem;simp only[dS]at h
  by_cases hal:bT o.op=true
  .have hg:o.guard=none:=by
    rw[hal]at hsure;simpa using hsure
   have hw:Region.wanted o (bA ops fr)=true:=by simp[Region.wanted,hg]
   rw[yAJ hw]at h;obtain⟨t,ht⟩:∃t,o.op=.alloc t:=by
    unfold bT at hal;split at hal
    .rename_i t e;exact⟨t,e⟩
    .cases hal
   rw[ht]at h;have hst:bK P (fK E) fl fr σ (.alloc t)=(match dT P t with|some p=>if p.cells.all PD.plain then some (.ptr σ.length 0,σ++[.box (boxed t p)])else none|none=>none):=rfl;rw[hst]at h;cases hz:dT P t with
   |none=>rw[hz]at h;cases h
   |some p0=>
    rw[hz]at h;simp only at h
    by_cases hp:p0.cells.all PD.plain=true
    .rw[yAJ hp]at h;simp only at h;obtain⟨hs,tr,e1,e2⟩:=YK hU (n:=n) ms hsh hno hsu l (i+1) _ _ x hd' h;refine⟨.box (boxed t p0)::hs,⟨fr,σ++.box (boxed t p0)::hs,.ptr σ.length 0,nL fr o.op⟩::tr,?_,?_⟩
     .unfold j6;rw[ht];simp only[hz,e1,hp,yAM]
     .simp only[eM,hw,yAM,hal];have hA:dF o.op=false:=by rw[ht];rfl
      have hp':eF P (cD P E n) fl (gH ops.toList ms i) σ.length fr (σ++.box (boxed t p0)::hs) o.op=some (.ptr σ.length 0,σ++.box (boxed t p0)::hs):=by
       unfold eF;rw[hA,hal];simp
      rw[hp'];simp only;rw[yAa,yBh,yAi,List.singleton_append]at e2;rw[e2]
    .rw[yAI hp]at h;cases h
  .simp only[yBZ]at hal;have hho:∀hs,j6 P l=some hs->j6 P (o::l)=some hs:=λhs e=>by
    unfold j6;split
    .rename_i t ht;rw[ht]at hal;cases hal
    .exact e
   by_cases hw:Region.wanted o (bA ops fr)=true
   .rw[yAJ hw]at h;cases hp:bK P (fK E) fl fr σ o.op with
    |none=>rw[hp]at h;cases h
    |some q=>
     obtain⟨p,σ1⟩:=q;rw[hp]at h;simp only at h;obtain⟨hs,tr,e1,e2⟩:=YK hU (n:=n) ms hsh hno hsu l (i+1) _ _ x hd' h;have key:eF P (cD P E n) fl (gH ops.toList ms i) σ.length fr (σ++hs) o.op=some (p,σ1++hs)/\σ1.length=σ.length:=by
      have hpd:=T3 (P:=P) (call:=cD P E n) (fl:=fl) (k:=σ.length) (free:=gH ops.toList ms i) (fr:=fr) (σ:=σ++hs) hshape hal;rw[hpd]
      by_cases hm:cR o.op=true
      .obtain⟨_,e3⟩:=aJr (P:=P) hU (cE:=fl) (σ2:=σ++hs) hown hm hp;simp only at e3;subst e3;have e4:=λf=>QQ (n:=n) (aJr (P:=P) hU (cE:=f) (σ2:=σ1++hs) hown hm hp).1
       simp only at e4;cases(!cR o.op||gH ops.toList ms i)with
       |true=>exact⟨e4 fl,rfl⟩
       |false=>
        simp only;rw[e4];simp
      .simp only[yBZ]at hm;have hm2:=hm;rw[hm];simp only[yBW,yCY];rw[aJu (call':=fK E) hm];unfold bK pop at hp ⊢;have hcal:dO fr o.op=none:=by
        cases hop:o.op with
        |call c=>
         obtain⟨callee,args,ts⟩:=c;rw[hop]at hm2;cases callee with
         |value f=>simp[cR]at hm2
         |invoke r m=>rfl
         |builtin b=>rfl
        |_=>rfl
       rw[hcal]at hp ⊢;simp only at hp ⊢;cases hv:dB P fr o.op with
       |some q=>
        rw[hv]at hp;exact ga
       |none=>
        rw[hv]at hp;simp only at hp ⊢;have aSe:dE o.op=true\/jO o.op=true\/eU o.op=true\/dF o.op=true:=by
         simp only[hal,dJ,hm2,yCZ,yBi]at hshape;rcases hshape with((h|h)|h)|h
         .exact .inr (.inr (.inr h))
         .exact .inl h
         .exact .inr (.inl h)
         .exact .inr (.inr (.inl h))
        rcases aSe with hl|hl|hl|hl
        .cases hop:o.op with
         |load t y=>
          rw[hop]at hp;simp only[cO]at hp ⊢;cases he:aT fr y with
          |none=>rw[he]at hp;cases hp
          |some a=>
           rw[he]at hp;simp only at hp ⊢;cases hlo:kW P σ t a with
           |none=>rw[hlo]at hp;cases hp
           |some q=>
            rw[hlo]at hp;rw[aSc hs hlo];exact ga
         |convert s d y=>
          rw[hop]at hp;simp only[cO]at hp ⊢;split at hp
          .rename_i htc;rw[yAJ htc];split at hp
           .rename_i ad had;split at hp
            .exact qo
            .split at hp
             .rename_i q hq;obtain⟨xs,hxs⟩:=aEx hq;rw[aJv (σ':=σ++hs) hq (λid hid=>yAg (aJw hxs hid))];exact qo
             .cases hp
           .cases hp
          .cases hp
         |_=>rw[hop]at hl;simp[dE]at hl
        .cases hop:o.op with
         |buildSlice t len parts=>
          rw[hop]at hp;simp only[cO]at hp ⊢;cases hps:sU fr parts.toList with
          |none=>rw[hps]at hp;cases hp
          |some ps=>
           rw[hps]at hp;simp only at hp ⊢;cases hq:J7 P t len (List.map (λq=>(q.fst,q.snd.strip)) ps)with
           |none=>rw[hq]at hp;cases hp
           |some q=>
            rw[hq]at hp;exact ga
         |makeSlice t x y=>
          rw[hop]at hp hl;obtain⟨q,hq⟩:=aEy (P:=P) hl;simp only[hq]at hp ⊢;cases q with
          |none=>cases hp
          |some q=>
           simp only[yAC,yAb,yAc]at hp ⊢;obtain⟨rfl,rfl⟩:=hp;exact⟨⟨rfl,rfl⟩,rfl⟩
         |_=>rw[hop]at hl;simp[jO]at hl
        .cases hop:o.op with
         |store t y z=>
          rw[hop]at hp;simp only[cO]at hp ⊢;cases he:aT fr y with
          |none=>rw[he]at hp;cases hp
          |some a=>
           cases hez:aT fr z with
           |none=>rw[he,hez]at hp;cases hp
           |some b=>
            rw[he,hez]at hp;simp only at hp ⊢;cases hst:qO P fl σ t a b with
            |none=>rw[hst]at hp;cases hp
            |some q=>
             rw[hst]at hp;rw[aSd hs hst];simp only[yAb,yAc]at hp ⊢;obtain⟨rfl,rfl⟩:=hp;refine⟨⟨rfl,rfl⟩,?_⟩;unfold qO at hst;split at hst
             .split at hst
              .exact fk
              .cases hst
             .exact fk
             .cases hst
         |_=>rw[hop]at hl;simp[eU]at hl
        .rw[aJx hl]at hp;cases hp
     refine⟨hs,⟨fr,σ++hs,p,nL fr o.op⟩::tr,hho hs e1,?_⟩;simp only[eM,hw,yAM,hal,yAx,yAO];rw[key.1];simp only;rw[key.2]at e2;rw[e2]
   .simp only[yBZ]at hw;rw[hw]at h;simp only[yAx,yAO]at h;obtain⟨hs,tr,e1,e2⟩:=YK hU (n:=n) ms hsh hno hsu l (i+1) _ _ x hd' h;refine⟨hs,⟨fr,σ++hs,.aI [],none⟩::tr,hho hs e1,?_⟩;simp only[eM,hw,yAx,yAO,hal];rw[e2]
theorem aSf(hU:aG E){n:Nat}{ops:Du}{x:Dq×Dp}(hs:(aEw ops&&J6 ops&&T2 ops)=true)(h:dS P (fK E) fl ops ops.toList fr σ=some x):kX P (cD P E n) fl ops fr σ=some x:=by
 simp only[yAr,aEw]at hs;obtain⟨⟨h1,h2⟩,h3⟩:=hs;rw[o4]at h1;simp only[yAr]at h1;obtain⟨hreg,hfeet⟩:=h1;have hr:=MK hreg;obtain⟨hs,tr,e1,e2⟩:=YK (n:=n) hU (bU ops.toList []) (λi o ho=>hr.shape i o ho) h2 h3 ops.toList 0 fr σ x yo h;unfold kX;simp only[hreg,yAM,e1,e2];have hfo:qP ops.toList (bU ops.toList []) tr=true:=by
  simp only[qP,yAn,yAY];simp only[yAn,yAY]at hfeet;intro k hk;have h1:=hfeet k Bw;cases hs:eL eU ops.toList k with
  |false=>simp
  |true=>
   rw[hs]at h1;simp only[yBH,yC,yAn,yAY]at h1 ⊢;intro i hi;have h2:=h1 i Bo;rw[h2];simp
 rw[yAJ hfo]
theorem WL.lZ{rd:Option Nat}{ms:List Nat}{Q:PO->Prop}{ops:Du}{id:Nat}{y:Code}(hU:aG E)(_hd:ML ops=true)(hs:(aEw ops&&J6 ops&&T2 ops)=true)(h:SQ P (fK E) fl ops ops.toList fr σ (λfr' σ'=>Wp P E rd y fl fr' ms σ' Q)) :
  Wp P E rd (.seq (.region id ops true) y) fl fr ms σ Q:=by
 obtain⟨fr',σ',h1,h2⟩:=h.ex;exact .seq ⟨_,.draw (N:=0) (λn _=>aSf hU hs h1),.normal h2⟩
end
end
section
open Go
abbrev cG:=Nat->Option Nat
def aCg:Op->Option Tmp
 |.fieldAddr _ (.tmp u) _=>some u
 |.nilCheck (.tmp u)=>some u
 |.move (.tmp u)=>some u
 |_=>none
def cG.next(ρ:cG)(o:Oper):cG:=match o.dst with
 |none=>ρ
 |some d=>λt=>if d=t then(match aCg o.op with
  |some u=>ρ u
  |none=>none)else ρ t
def cG.iQ(ρ:cG):Op->Option Nat
 |.load _ (.tmp t)=>ρ t
 |.store _ (.tmp t) _=>ρ t
 |_=>none
def pT:cG->List Oper->List (Option Nat)
 |_,[]=>[]
 |ρ,o::l=>ρ.iQ o.op::pT (ρ.next o) l
def cG.ok(ρ:cG)(fr:List PD):Prop:=∀t id id',ρ t=some id->j7 (fr.getD t (.aI []))=some id'->id'=id
def cG.of:List (Nat×Nat)->cG
 | []=>λ_=>none
 |x::l=>λt=>if x.1=t then some x.2 else cG.of l t
def cG.at(fr:List PD):List (Nat×Nat)->Prop
 | []=>True
 |x::l=>(∃off,lk fr x.1=some (.ptr x.2 off))/\cG.at fr l
theorem cG.aKX{fr:Dq}:∀(l:List (Nat×Nat)),cG.at fr l->(cG.of l).ok fr
 | [],_=>λ_ _ _ h=>zk
 |x::l,⟨⟨off,h1⟩,h2⟩=>λt id id' h h'=>by
  unfold cG.of at h
  by_cases e:x.1=t
  .rw[yAJ e]at h;simp only[yAb]at h;rw[aBM,e]at h1;rw[yAA,h1]at h';simp only[yCa,j7,yAb]at h';rw[<-h',h]
  .rw[yAI e]at h;exact cG.aKX l h2 t id id' h h'
section
variable{P:Program}{call:b9}{fl:Nat}{ops:Du}
theorem cG.aKY{ρ:cG}{fr:Dq}(h:ρ.ok fr){op:Op}{a b:Nat}(h1:nL fr op=some a)(h2:ρ.iQ op=some b):a=b:=by
 unfold cG.iQ at h2;split at h2
 .rename_i t;simp only[nL,aT]at h1;exact h _ _ _ h2 h1
 .rename_i t;simp only[nL,aT]at h1;exact h _ _ _ h2 h1
 .cases h2
theorem cG.aCh{ρ:cG}{fr:Dq}(h:ρ.ok fr){o:Oper}{p:PD}
  (hp:∀u,aCg o.op=some u->∀id,j7 p=some id->j7 (fr.getD u (.aI []))=some id):(ρ.next o).ok (aM fr o.dst p):=by
 intro t id id' h1 h2;unfold cG.next at h1;cases hd:o.dst with
 |none=>
  rw[hd]at h1 h2;exact h t id id' h1 h2
 |some d=>
  rw[hd]at h1 h2;simp only[aM]at h1 h2
  by_cases e:d=t
  .rw[yAJ e]at h1;have hpt:j7 p=some id':=by
    subst e;rw[yAA]at h2
    by_cases hlt:d<fr.length
    .rw[yAj hlt]at h2;simpa using h2
    .rw[yBo (by rw[yAD];exact Nat.le_of_not_lt hlt)]at h2;cases h2
   split at h1
   .rename_i u ho;exact h u id id' h1 (hp u ho _ hpt)
   .cases h1
  .rw[yAI e]at h1;rw[yAA,yAd e]at h2;exact h t id id' h1 (by rw[yAA];exact h2)
theorem aKZ{s:TypeId}{x p:PD}{f id:Nat}(h:OO P s x f=some p)(hp:j7 p=some id):j7 x=some id:=by
 unfold OO at h
 repeat' split at h
 all_goals first
  |(simp only[yAb]at h;subst h;exact hp)
  |(cases h;done)
theorem aFu:∀(l:List Oper) (ms:List Nat) (i k:Nat) (fr:List PD) (σ:List U) (tr:List TE) (fr':List PD) (σ':List U) (ρ:cG),
  eM P call fl ops ms i k l fr σ=some (tr,fr',σ')->ρ.ok fr->∀j a b,(tr[j]?).bind TE.iQ=some a->(pT ρ l).getD j none=some b->a=b
 | [],_,_,_,_,_,_,_,_,_,_,_,_,_,_,_,h2=>by simp[pT]at h2
 |o::l,ms,i,k,fr,σ,tr,fr',σ',ρ,h,hρ,j,a,b,h1,h2=>by
  simp only[eM]at h;split at h
  .split at h
   .rename_i p σ1 hop;split at h
    .rename_i oL aH σ2 hrec;simp only[yAb,yAc]at h;obtain⟨rfl,rfl,rfl⟩:=h;cases j with
     |zero=>
      exact oq
     |succ j=>
      simp only[yBT]at h1;simp only[pT,yDB]at h2;refine aFu l ms _ _ _ _ _ _ _ _ hrec (cG.aCh hρ ?_) j a b h1 h2;exact ak
    .cases h
   .cases h
  .split at h
   .rename_i oL aH σ2 hrec;simp only[yAb,yAc]at h;obtain⟨rfl,rfl,rfl⟩:=h;cases j with
    |zero=>simp at h1
    |succ j=>
     simp only[yBT]at h1;simp only[pT,yDB]at h2;exact aFu l ms _ _ _ _ _ _ _ _ hrec (cG.aCh hρ λ_ _ _ hp=>by cases hp) j a b h1 h2
   .cases h
def aCi(ops:List Oper)(ρ:cG):List (Option Nat×Option Nat):=vC ops [] λms=>
 (List.range ops.length).flatMap λk=>if eL eU ops k then(List.range ops.length).filterMap λi=>if eL dE ops i&&loose ms i k then some ((pT ρ ops).getD i none,(pT ρ ops).getD k none)else none else []
def ZO:List (Option Nat×Option Nat)->Prop
 | []=>True
 |(some a,some b)::l=>a≠b/\ZO l
 |_::_=>False
theorem aK0:∀ {l:List (Option Nat×Option Nat)},ZO l->∀x y,(x,y)∈l->∃a b,x=some a/\y=some b/\a≠b
 | [],_,_,_,h=>zk
 |(some a,some b)::l,h,x,y,hm=>by
  rcases yAS.1 hm with e|hm
  .simp only[yAc]at e;exact⟨a,b,e.1,e.2,h.1⟩
  .exact aK0 h.2 x y hm
 |(none,_)::_,h,_,_,_=>h.elim
 |(some _,none)::_,h,_,_,_=>h.elim
def vL(ops:Array Oper):Bool:=vC ops.toList [] λms=>EM ops ms
end
section
variable{P:Program}{E:aE}{fl:Nat}{fr:Dq}{σ:Dp}
theorem aK1(hU:aG E){n:Nat}{ops:Du}{x:Dq×Dp}(ρ:List (Nat×Nat)){L:List (Option Nat×Option Nat)}(hs:(vL ops&&J6 ops&&T2 ops)=true)
  (hρ:cG.at fr ρ) (hL:aCi ops.toList (cG.of ρ)=L) (hp:ZO L) (h:dS P (fK E) fl ops ops.toList fr σ=some x):kX P (cD P E n) fl ops fr σ=some x:=by
 simp only[yAr,vL]at hs;obtain⟨⟨h1,h2⟩,h3⟩:=hs;rw[o4]at h1;have hr:=MK h1;obtain⟨hs,tr,e1,e2⟩:=YK (n:=n) hU (bU ops.toList []) (λi o ho=>hr.shape i o ho) h2 h3 ops.toList 0 fr σ x yo h;have hft:=aFu _ _ _ _ _ _ _ _ _ _ e2 (cG.aKX ρ hρ);unfold kX;simp only[h1,yAM,e1,e2];have hfo:qP ops.toList (bU ops.toList []) tr=true:=by
  simp only[qP,yAn,yAY];intro k hk;cases hs:eL eU ops.toList k with
  |false=>simp
  |true=>
   simp only[yBH,yC,yAn,yAY];intro i hi;cases hli:eL dE ops.toList i with
   |false=>simp
   |true=>
    cases hlo:loose (bU ops.toList []) i k with
    |false=>simp
    |true=>
     simp only[yBH,yC];have hm:((pT (cG.of ρ) ops.toList).getD i none,(pT (cG.of ρ) ops.toList).getD k none)∈L:=by
      rw[<-hL,aCi,o4];refine yCt.2 ⟨k,yAY.2 hk,?_⟩;rw[yAJ hs];refine yDQ.2 ⟨i,yAY.2 hi,?_⟩;rw[hli,hlo];rfl
     obtain⟨a,b,ha,hb,hab⟩:=aK0 hp _ _ hm;split
     .rename_i a' b' ea eb;have e3:=hft i a' a ea ha;have e4:=hft k b' b eb hb;rw[e3,e4];simpa using hab
     .rfl
 rw[yAJ hfo]
theorem Wp.aCj{rd:Option Nat}{ms:List Nat}{Q:PO->Prop}{ops:Du}{id:Nat}{y:Code}(hU:aG E)(ρ:List (Nat×Nat))(L:List (Option Nat×Option Nat))(hs:(vL ops&&J6 ops&&T2 ops)=true)
  (hρ:cG.at fr ρ) (hL:aCi ops.toList (cG.of ρ)=L) (hp:ZO L) (h:SQ P (fK E) fl ops ops.toList fr σ (λfr' σ'=>Wp P E rd y fl fr' ms σ' Q)) :
  Wp P E rd (.seq (.region id ops true) y) fl fr ms σ Q:=by
 obtain⟨fr',σ',h1,h2⟩:=h.ex;exact .seq ⟨_,.draw (N:=0) (λn _=>aK1 hU ρ hs hρ hL hp h1),.normal h2⟩
theorem Wp.aUn{rd:Option Nat}{ms:List Nat}{Q:PO->Prop}{ops:Du}{id:Nat}(hU:aG E)(ρ:List (Nat×Nat))(L:List (Option Nat×Option Nat))(hs:(vL ops&&J6 ops&&T2 ops)=true)
  (hρ:cG.at fr ρ) (hL:aCi ops.toList (cG.of ρ)=L) (hp:ZO L) (h:SQ P (fK E) fl ops ops.toList fr σ (λfr' σ'=>Q ⟨.normal,fr',ms,σ'⟩)) :
  Wp P E rd (.region id ops true) fl fr ms σ Q:=by
 obtain⟨fr',σ',h1,h2⟩:=h.ex;exact⟨_,.draw (N:=0) (λn _=>aK1 hU ρ hs hρ hL hp h1),h2⟩
end
end
section
open Go
def aFv(P:Program)(u:TypeId):Bool:=match P.underlying u with
 |some .string=>true
 |_=>false
section
variable{P:Program}{call:b9}{fl:Nat}{ops:Du}{l:List Oper}{fr aH:Dq}{σ σ1:Dp}{K:List PD->List U->Prop}
variable{dst:Option Tmp}{x y:Operand}{t u ty:TypeId}{pos:String}{edges:Array Edge}{guard:Option (Nat×Bool)}{p r:PD}{bs:Dr}
theorem SQ.RI(hub:(aFv P u&&xT P t)=true)(hw:Region.wanted ⟨dst,.call { callee:=.builtin .append,args:=#[x,y],argTypes:=#[t,u] },ty,pos,edges,guard⟩ (bA ops fr)=true)(hx:bF fr x=some p)(hy:bF fr y=some (.str bs))
  (hr:(if qS t fr.length=true then nO P fr.length fl σ t p (KF bs)else dX P fl σ t p (KF bs))=some (r,σ1)) (hf:aM fr dst r=aH) (k:SQ P call fl ops l aH σ1 K):SQ P call fl ops (⟨dst,.call { callee:=.builtin .append,args:=#[x,y],argTypes:=#[t,u] },ty,pos,edges,guard⟩::l) fr σ K:=by
 simp only[yAr]at hub;have hu:P.underlying u=some .string:=by
  have:=hub.1;unfold aFv at this;split at this
  .assumption
  .cases this
 have hne:t≠u:=by
  rintro rfl
  have:=hub.2;unfold xT at this;rw[hu]at this;cases this
 refine .step hw (ES rfl ?_ ?_) (hf▸k)
 .simp only[dB,jQ,cS hx,cS hy,MU]
 .simp only[cO,jQ,cS hx,cS hy,hne,yAO,hu,hub.2,yAM];unfold KF at hr
  by_cases hm:qS t fr.length=true
  .rw[yAJ hm]at hr;rw[hr]
  .rw[yAI hm]at hr;have:nO P fr.length fl σ t p (.slice (if bs.length=0 then 0 else 1) (bs.map λb=>.int .u8 b.toNat) .any)=none:=by unfold nO;rw[yAI hm]
   rw[this];exact hr
theorem SL.RI(hub:(aFv P u&&xT P t)=true)(hw:Wt (Region.wanted ⟨dst,.call { callee:=.builtin .append,args:=#[x,y],argTypes:=#[t,u] },ty,pos,edges,guard⟩ (bA ops fr)=true))(hx:bF fr x=some p)(hy:bF fr y=some (.str bs))
  (hr:By ((if qS t fr.length=true then nO P fr.length fl σ t p (KF bs)else dX P fl σ t p (KF bs))=some (r,σ1))) (hf:Fr (aM fr dst r=aH)) (k:SQ P call fl ops l aH σ1 K):SQ P call fl ops (⟨dst,.call { callee:=.builtin .append,args:=#[x,y],argTypes:=#[t,u] },ty,pos,edges,guard⟩::l) fr σ K:=SQ.RI hub hw.h hx hy hr.h hf.h k
end
end
mutual
def PD.flat:PD->Bool
 |.bool _|.int _ _|.str _|.cQ|.iC|.bG _=>true
 |.agg cs=>PD.HB cs
 |.aI cs=>PD.HB cs
 |_=>false
def PD.HB:List PD->Bool
 | []=>true
 |x::xs=>x.flat&&PD.HB xs
end
theorem PD.aLd:∀xs:List PD,PD.HB xs=xs.all PD.flat
 | []=>by simp[PD.HB]
 |x::xs=>by simp[PD.HB,PD.aLd xs]
theorem VR.flat{c c':Cx}{v:Value}{p:PD}(hv:VR c v p):p.flat=true->VR c' v p:=by
 have at_:∀ {ds:Dq} {i:Nat} {d:PD},PD.HB ds=true->ds[i]?=some d->d.flat=true:=by
  intro ds i d h hd;rw[PD.aLd]at h;exact yAn.1 h d (yAE hd)
 induction hv with
 |bool b=>intro _;exact .bool b
 |int k n=>intro _;exact .int k n
 |str s=>intro _;exact .str s
 |agg cs ds hl h1 _ ih=>
  intro hp;simp only[PD.flat]at hp;exact ug
 |slice A n cap size xs tok cE hn hc hm hx hf h1 hcl _ ht ih=>intro hp;simp[PD.flat]at hp
 |ptr id off b hd hs hr=>intro hp;simp[PD.flat]at hp
 |cL id off n cap size b hd hs hr h1 h2=>intro hp;simp[PD.flat]at hp
 |eB id ver off n cap size b nS h1 h2=>intro hp;simp[PD.flat]at hp
 |fD id ver off b nS=>intro hp;simp[PD.flat]at hp
 |fA id b hd hn hr=>intro hp;simp[PD.flat]at hp
 |iface t v p _ ih=>intro hp;simp[PD.flat]at hp
 |cI ad cE ds off hl h1 hcl _ ih=>intro hp;simp[PD.flat]at hp
 |cQ=>intro _;exact .cQ
 |func f cs ds hl _ ih=>intro hp;simp[PD.flat]at hp
 |jS f cs ds hl _ ih=>intro hp;simp[PD.flat]at hp
 |iC=>intro _;exact .iC
 |bG v h=>intro _;exact .bG v h
 |yield id l hd hn hr=>intro hp;simp[PD.flat]at hp
 |aI cs ds hl _ ih=>
  intro hp;simp only[PD.flat]at hp;exact uo
def HC(σ:List U):PD->Option PD
 |.ptr id off=>match σ[id]? with
   |some (.box p)=>some (.cI (p.cells.map PD.strip) off)
   |_=>none
 |.cL id off n size=>match EZ σ (.cL id off n size)with
   |some xs=>some (.slice 1 (xs.map PD.strip) .any)
   |none=>none
 |p=>some p.strip
def nY(σ:List U):List PD->Option (List PD)
 | []=>some []
 |p::ps=>match HC σ p,nY σ ps with
  |some q,some qs=>some (q::qs)
  |_,_=>none
def Cx.boxed(c:Cx)(a:Addr):Prop:=∃id p b,c.D id/\c.σ[id]?=some (.box p)/\c.ρ id=.pointer (some ⟨b,0,none⟩)/\a.block=b
def Cx.open(c:Cx):Cx:={ w:=c.w,ρ:=λ_=>undef,σ:=[],D:=λ_=>False,X:=λa=>c.av a\/c.boxed a }
theorem aCl{c:Cx}(a:Addr):c.open.av a↔(c.av a\/c.boxed a):=⟨λh=>h.1,λh=>⟨h,λ_ _ hd=>hd.elim⟩⟩
theorem Sr.open{c:Cx}(hs:Sr c):Sr c.open where
 box:=λ_ _ h=>h.elim
 own:=λ_ _ _ _ h=>h.elim
 row:=λ_ _ _ _ _ h=>h.elim
 map:=λ_ _ h=>h.elim
 mark:=λ_ h=>h.elim
 loop:=λ_ _ _ _ _ _ h=>h.elim
 inj:=λ_ _ _ h=>h.elim
 lt:=λ_ _ h=>h.elim
 aZ:=λ_ h=>h.elim
 fresh:=λ_ h=>.inl (aJK hs h)
 iG:=⟨λg ds e=>(hs.iG.1 g ds e).free (λa v h1 h2=>⟨(aCl a).2 (.inl h1),h2⟩) (by simpa [PD.bW]using aJL e),λg hh=>⟨(hs.iG.2 g hh).1,λ_ h=>h.elim⟩⟩
theorem aUF{c:Cx}(hs:Sr c){v:Value}{p q:PD}(hv:VR c v p)(h:HC c.σ p=some q)(hf:q.bW=true):VR c.open v q:=by
 have up:∀a v,c.av a->c.w.cell? a=some v->c.open.av a/\c.open.w.cell? a=some v:=λa v h1 h2=>⟨(aCl a).2 (.inl h1),h2⟩
 unfold HC at h;split at h
 .rename_i id off;split at h
  .rename_i p hb;simp only[yAb]at h;subst h;cases hv with
   |ptr id off b hd hq hr=>
    obtain⟨b',cs,T,e1,e2,e3,e4,_⟩:=hs.box id p hd hb;have hbb:b=b':=by
     rw[hr]at e1;simpa using e1
    subst hbb;have hadd:∀j,(⟨b,0,none⟩:Addr).add j=⟨b,j,none⟩:=λj=>ze
    have e5:aK c.open cs.toList (p.cells.map PD.strip):=e3.strip.free up (by simpa [PD.bW]using hf);have:=VR.cI (c:=c.open) ⟨b,0,none⟩ cs.toList (p.cells.map PD.strip) off e5.1 e4 (λj v hj=>by
     rw[hadd];refine⟨?_,(aCl _).2 (.inr ⟨id,p,b,hd,hb,hr,rfl⟩)⟩;show c.w.cell? ⟨b,j,none⟩=some v
     simp only[World.cell?,e2];simpa using hj) e5.2
    rw[hadd]at this;exact this
  .cases h
 .rename_i id off n size;split at h
  .rename_i xs hxs;simp only[yAb]at h;subst h;simp only[EZ]at hxs;split at hxs
   .split at hxs
    .rename_i p hb;split at hxs
     .rename_i hle;simp only[yAb]at hxs;subst hxs;obtain⟨b,cap,rfl,hd,_,hr,h1,h2⟩:=hv.M4;obtain⟨b',cs,T,e1,e2,e3,e4,_⟩:=hs.box id p hd hb;have hbb:b=b':=by
       rw[hr]at e1;simpa using e1
      subst hbb;have hadd:∀j,(⟨b,off,none⟩:Addr).add j=⟨b,off+j,none⟩:=λj=>ze
      have hpl:∀d∈(p.cells.drop off).take n,d.plain=true:=by
       intro d hd';obtain⟨i,hi⟩:=yCH (yBJ (yAy hd'));have hlt:i<cs.toList.length:=by rw[e3.1];exact(yA.1 hi).1
       have:=(e3.2 i cs.toList[i] d Cd hi).plain;rw[this];exact e4 _ (yAm hlt)
      have hcl:∀d:PD,d.plain=true->d.strip.cells=[d.strip]:=by
       intro d hd';cases d with
       |slice m xs tok=>cases xs<;>rfl
       |agg _=>simp[PD.plain]at hd'
       |typed _ _=>simp[PD.plain]at hd'
       |aI _=>simp[PD.plain]at hd'
       |_=>rfl
      have hflat:∀l:List PD,(∀d∈l,d.plain=true)->(l.map PD.strip).flatMap PD.cells=l.map PD.strip:=by
       intro l
       induction l with
       |nil=>intro _;rfl
       |cons d l ih=>
        intro hl;rw[yAX,yBg,hcl d (hl d yo),ih λx hx=>hl x (by simp[hx])];rfl
      have hfr:PD.eV (((p.cells.drop off).take n).map PD.strip)=true:=by simpa [PD.bW]using hf
      have e5:aK c.open ((cs.toList.drop off).take n) (((p.cells.drop off).take n).map PD.strip):=(e3.take_drop off n).strip.free up hfr;have hlen:(((p.cells.drop off).take n).map PD.strip).length=n:=by
       rw[yAe,yAt,yBf];omega
      refine .slice (some ⟨b,off,none⟩) n cap 1 _ .any ((cs.toList.drop off).take n) hlen.symm h1 h2 ?_ (by have:=e5.1;omega) (λv hv=>e4 v (yBJ (yAy hv))) ?_ ?_ trivial
      .intro x hx;obtain⟨d,hd',rfl⟩:=yAw.1 hx;rw[hcl d (hpl d hd')];rfl
      .intro j v hj;refine⟨_,rfl,?_,?_⟩
       .rw[hadd];show c.w.cell? ⟨b,off+j,none⟩=some v
        exact lu
       .rw[hadd];exact(aCl _).2 (.inr ⟨id,p,b,hd,hb,hr,rfl⟩)
      .intro j v d q1 q2;rw[hflat _ hpl]at q2;exact e5.2 j v d q1 q2
     .cases hxs
    .cases hxs
   .cases hxs
  .cases h
 .simp only[yAb]at h;subst h;exact hv.strip.free up hf
theorem aLe{σ:Dp}:∀ {ps qs:Dq},nY σ ps=some qs->qs.length=ps.length
 | [],qs,h=>by simp[nY]at h;subst h;rfl
 |p::ps,qs,h=>by
  unfold nY at h;split at h
  .rename_i q qs' h1 h2;simp only[yAb]at h;subst h;simp[aLe h2]
  .cases h
theorem aLf{σ:Dp}:∀ {ps qs:Dq},nY σ ps=some qs->∀(i:Nat) (q:PD),qs[i]?=some q->∃p,ps[i]?=some p/\HC σ p=some q
 | [],qs,h,i,q,hq=>by simp[nY]at h;subst h;simp at hq
 |p::ps,qs,h,i,q,hq=>by
  unfold nY at h;split at h
  .rename_i q' qs' h1 h2;simp only[yAb]at h;subst h;cases i with
   |zero=>
    simp only[yBD,yAb]at hq;subst hq;exact⟨p,rfl,h1⟩
   |succ i=>exact aLf h2 i q (by simpa using hq)
  .cases h
theorem aUG{c:Cx}(hs:Sr c){vs:Ds}{ps qs:Dq}(hv:aK c vs ps)(h:nY c.σ ps=some qs)(hf:PD.eV qs=true):aK c.open vs qs:=by
 refine⟨hv.1.trans (aLe h).symm,λi v q h1 h2=>?_⟩;obtain⟨p,e1,e2⟩:=aLf h i q h2;rw[PD.G2]at hf;exact aUF hs (hv.2 i v p h1 e1) e2 (yAn.1 hf q (yAE h2))
def eD(g:List PD->Option PD):Nat->List PD->List U->Option (PD×List U):=λ_ args σ=>match nY σ args with
 |some asg=>match g asg with|some p=>some (p,σ)|none=>none
 |none=>none
theorem aF.U5{P:Program}{E:aE}(hE:aF P E)(hP:P.follows .mixedOrders=true){f:FuncId}{g:List PD->Option PD}
  (h:∀args p,g args=some p->aJ P E f args p/\PD.eV args=true/\p.flat=true):aF P (E.add f (eD g)):=by
 refine⟨fun {F fl f' g' args c vs p σ'} hF hg hgo hs hX hv=>?_,hE.bD⟩;rw[aE.o3]at hg;split at hg
 .rename_i e;subst e;simp only[yAb]at hg;subst hg;unfold eD at hgo;split at hgo
  .rename_i asg has;split at hgo
   .rename_i q hga;simp only[yAb,yAc]at hgo;obtain⟨rfl,rfl⟩:=hgo;obtain⟨⟨p1,σ1,⟨N,hN⟩,e1⟩,e2,e3⟩:=h asg q hga;have fQ:aK c.open vs asg:=aUG hs hv has e2;have:=(UH hE hP hF N).fn (c:=c.open) (hN N (yAk _)) hs.open (λ_ _ h=>h.elim) fQ;refine⟨this.1,λm=>yBQ (this.2 m) λe w' he=>?_⟩;cases e with
    |returned v=>
     obtain⟨c1,rfl,rfl,hs1,nx,hvv,_⟩:=he;have hgr:c.w.grownBy c1.w none:=⟨nx.os,nx.tape,nx.output,nx.size,λk hk _=>nx.frame k hk (λ_ h=>h.elim)⟩;refine⟨c.at c1.w,rfl,rfl,hs.grow hgr,Nx.grow hs hgr,?_,λ_ h=>.inl h⟩;have hp:=hvv.strip;rw[e1]at hp;exact hp.flat e3
    |panicked ch=>exact he.elim
    |outgrown=>exact he.elim
   .cases hgo
  .cases hgo
 .exact fh
def jU(P:Program)(E:aE)(f:FuncId)(Q:List PD->List U->PD->List U->Prop):Nat->List PD->List U->Option (PD×List U):=by
 classical
 exact λfl args σ=>if h:∃r:PD×List U,mB P E fl (.inl f) args σ r.1 r.2/\Q args σ r.1 r.2 then some h.choose else none
theorem ZU{P:Program}{E:aE}{f:FuncId}{Q:List PD->List U->PD->List U->Prop}{fl:Nat}{args:Dq}{σ σ':Dp}{p:PD}(h:jU P E f Q fl args σ=some (p,σ')):mB P E fl (.inl f) args σ p σ'/\Q args σ p σ':=by
 unfold jU at h;exact nk
theorem aCm{P:Program}{E:aE}{f:FuncId}{Q:List PD->List U->PD->List U->Prop}{fl:Nat}{args:Dq}{σ:Dp}(h:cF P E fl (.inl f) args σ (Q args σ)):∃p σ',jU P E f Q fl args σ=some (p,σ')/\Q args σ p σ':=by
 obtain⟨p,σ',h1,h2⟩:=h.ex;have hx:∃r:PD×List U,mB P E fl (.inl f) args σ r.1 r.2/\Q args σ r.1 r.2:=⟨(p,σ'),h1,h2⟩;refine⟨hx.choose.1,hx.choose.2,?_,hx.choose_spec.2⟩;unfold jU;rw[dif_pos hx]
theorem aF.ZV{P:Program}{E:aE}(hE:aF P E)(hP:P.follows .mixedOrders=true){f:FuncId}{Q:List PD->List U->PD->List U->Prop}:aF P (E.add f (jU P E f Q)):=
 hE.add hP λ_ _ _ _ _ h=>(ZU h).1
theorem aLg:∀ {ps qs:Dq},nY [] ps=some qs->∀σ,nY σ ps=some qs
 | [],_,h,_=>h
 |p::ps,qs,h,σ=>by
  unfold nY at h ⊢;split at h
  .rename_i q qs' h1 h2;simp only[yAb]at h;subst h;have e:HC σ p=some q:=by
    cases p with
    |ptr id off=>simp[HC]at h1
    |cL id off n size=>simp[HC,EZ]at h1
    |_=>exact h1
   rw[e,aLg h2 σ]
  .cases h
theorem aG.eD{E:aE}(hU:aG E){f:FuncId}{g:List PD->Option PD}:aG (E.add f (eD g)):=by
 intro f' g' args p hf hg fl σ;rw[aE.o3]at hf;split at hf
 .simp only[yAb]at hf;subst hf;unfold Kz.eD at hg ⊢;split at hg
  .rename_i asg has;rw[aLg has σ];simp only;split at hg
   .rename_i q hq;simp only[yAb,yAc]at hg ⊢;exact⟨hg.1,trivial⟩
   .cases hg
  .cases hg
 .exact hU f' g' args p hf hg fl σ
theorem aG.jU{P:Program}{E:aE}(hU:aG E){f:FuncId}{Q:List PD->List U->PD->List U->Prop}(hQ:∀args p,¬Q args [] p []):aG (E.add f (jU P E f Q)):=
 hU.other λargs p h=>hQ args p (ZU h).2
structure Hd (R:Prop):Prop where
 out:R
theorem aD{X R G:Prop}(gx:X)(r:R)(h:X->Hd R->G:=by
  (intro gx hh
   (repeat(first
    |(refine Fr.i ?_;simp only[aM,yAT,yAU];try rfl)
    |(refine By.i ?_;(focus(simp(disch:=first|omega|(simp;done)|(simp;omega)) [wrap_i64,wrap_u64,gx,entry,UF,aY,cU,UG];first|done|rfl|exact⟨rfl,rfl⟩)))
    |(refine By.i ?_;simp(disch:=first|omega|(simp;done)|(simp;omega)) [wrap_i64,wrap_u64,gx,entry,UF,aY,cU,UG];refine⟨yw,rfl⟩)
    |(refine Wt.i ?_;first|rfl|(focus(simp[gx,entry,UF,aY,cU,UG];done)))
    |(refine Ns.i ?_;(try simp only[yAl,yAQ,yAR,yAi,yAa,yAK,yAL,yAp,Nat.reduceAdd]);rfl)|rfl
    |(apply SL.pass;(focus(refine Wt.i ?_;rfl)))|(apply SL.RI;(focus decide +kernel))|(apply tu;(focus rfl))|apply SL.move|apply SL.assign|apply SL.load|apply SL.gC|apply tu|apply SL.make
    |apply SL.binOp|apply SL.append|(apply tu;(focus decide +kernel))|apply tu|apply SL.builtin|apply SL.fieldAddr|apply SL.indexAddr|apply SL.field|apply SL.extract|(apply tu;rotate_left;(focus rfl);rotate_right)|apply SL.gD|apply SL.pick|apply SL.store|apply SL.unOp|apply SL.convert|apply SL.index
    |apply SL.slice|apply SL.build|apply SL.nilCheck|apply SL.buildSlice|apply SL.box|apply SL.alloc|apply SL.makeFunc|apply tu|apply SQ.nil|(apply WL.kN;(focus decide +kernel))
    |(apply WL.eI yq;(focus decide +kernel);(focus decide +kernel))|(apply WL.jP;(focus decide +kernel);(focus decide +kernel))|(apply WL.lC;(focus decide +kernel))
    |(apply WL.lA yq;(focus decide +kernel);(focus decide +kernel))|(apply WL.lB;(focus decide +kernel);(focus decide +kernel))|(apply WL.kZ yq;(focus decide +kernel);(focus decide +kernel))
    |(apply WL.kY yq;(focus decide +kernel);(focus decide +kernel))|(apply WL.lZ yq;(focus decide +kernel);(focus decide +kernel))
    |(apply tu yq;(focus decide +kernel);(focus decide +kernel))|apply tu|(apply WL.ct;(focus rfl))|(apply WL.cf;(focus rfl))|refine aS.normal ?_|refine aS.ret ?_|refine aS.exit ?_
    |refine aO.normal ?_|refine aO.ret ?_|refine aO.here ?_|refine aO.there yx ?_|refine Wp.block ?_|refine Wp.skip ?_|refine Wp.ret ?_|refine Wp.exit ?_|refine aL.ret ?_|refine aL.exit ?_
    |refine tu ?_|refine tu ?_|refine tu ?_|refine Wp.seq (Wp.seq ?_)|refine Wp.seq (Wp.block ?_)|(refine Wp.seq ?_;apply WL.ct;(focus rfl))|(refine Wp.seq ?_;apply WL.cf;(focus rfl))))
   exact hh.out)):G:=h gx ⟨r⟩
theorem bM{X R G:Prop}(gx:X)(r:R)(h:X->Hd R->G:=by
  (intro gx hh
   (repeat(first
    |(refine Fr.i ?_;simp only[aM,yAT,yAU];try rfl)
    |(refine By.i ?_;(focus(simp(disch:=first|omega|(simp;done)|(simp;omega)) [wrap_i64,wrap_u64,gx];first|done|rfl|exact⟨rfl,rfl⟩)))
    |(refine By.i ?_;simp(disch:=first|omega|(simp;done)|(simp;omega)) [wrap_i64,wrap_u64,gx];refine⟨yw,rfl⟩)
    |(refine Wt.i ?_;first|rfl|(focus(simp[gx];done)))
    |(refine Ns.i ?_;(try simp only[yAl,yAQ,yAR,yAi,yAa,yAK,yAL,yAp,Nat.reduceAdd]);rfl)|rfl
    |(apply SL.pass;(focus(refine Wt.i ?_;rfl)))|(apply tu;(focus rfl))|apply SL.move|apply SL.assign|apply SL.load|apply SL.gC|apply tu|apply SL.make|apply SL.binOp|apply SL.append|apply tu
    |apply SL.builtin|apply SL.fieldAddr|apply SL.indexAddr|apply SL.field|apply SL.extract|apply SL.gD|apply SL.pick|apply SL.store|apply SL.unOp|apply SL.convert|apply SL.index|apply SL.slice|apply SL.build
    |apply SL.nilCheck|apply SL.buildSlice|apply SL.box|apply SL.alloc|apply SL.makeFunc))
   exact hh.out)):G:=h gx ⟨r⟩
theorem j9{X R G:Prop}(gx:X)(r:R)(h:X->Hd R->G:=by
  (intro gx hh
   (repeat(first
    |(refine Fr.i ?_;simp only[aM,yAT,yAU];try rfl)
    |(refine By.i ?_;(focus(simp(disch:=first|omega|(simp;done)|(simp;omega)) [wrap_i64,wrap_u64,gx];first|done|rfl|exact⟨rfl,rfl⟩)))
    |(refine By.i ?_;simp(disch:=first|omega|(simp;done)|(simp;omega)) [wrap_i64,wrap_u64,gx];refine⟨yw,rfl⟩)
    |(refine Wt.i ?_;first|rfl|(focus(simp[gx];done)))
    |(refine Ns.i ?_;(try simp only[yAl,yAQ,yAR,yAi,yAa,yAK,yAL,yAp,Nat.reduceAdd]);rfl)|rfl
    |(apply SL.pass;(focus(refine Wt.i ?_;rfl)))|(apply tu;(focus rfl))|apply SL.move|apply SL.assign|apply SL.load|apply SL.gC|apply tu|apply SL.make|apply SL.binOp|apply SL.append
    |apply tu|apply SL.builtin|apply SL.fieldAddr|apply SL.indexAddr|apply SL.field|apply SL.extract|apply SL.gD|apply SL.pick|apply SL.store|apply SL.unOp|apply SL.convert|apply SL.index|apply SL.slice
    |apply SL.build|apply SL.nilCheck|apply SL.buildSlice|apply SL.box|apply SL.alloc|apply SL.makeFunc))
   exact hh.out)):G:=h gx ⟨r⟩
theorem aFy{X R G:Prop}(gx:X)(r:R)(h:X->Hd R->G:=by
  (intro gx hh
   (repeat(first
    |(refine Fr.i ?_;simp only[aM,yAT,yAU];try rfl)|(refine By.i ?_;(focus(simp(disch:=first|omega|(simp;done)|(simp;omega)) [wrap_i64,wrap_u64,gx];first|done|rfl|exact⟨rfl,rfl⟩)))
    |(refine By.i ?_;simp(disch:=first|omega|(simp;done)|(simp;omega)) [wrap_i64,wrap_u64,gx];refine⟨yw,rfl⟩)
    |(refine Wt.i ?_;first|rfl|(focus(simp;done)))
    |(refine Ns.i ?_;(try simp only[yAl,yAQ,yAR,yAi,yAa,yAK,yAL,yAp,Nat.reduceAdd]);rfl)|rfl
    |(apply SL.pass;(focus(refine Wt.i ?_;rfl)))|(apply tu;(focus rfl))|apply SL.move|apply SL.assign|apply SL.load|apply SL.gC|apply tu|apply SL.make|apply SL.binOp|apply SL.append|apply tu
    |apply SL.builtin|apply SL.fieldAddr|apply SL.indexAddr|apply SL.field|apply SL.extract|apply SL.gD|apply SL.pick|apply SL.store|apply SL.unOp|apply SL.convert|apply SL.index|apply SL.slice|apply SL.build
    |apply SL.nilCheck|apply SL.buildSlice|apply SL.box|apply SL.alloc|apply SL.makeFunc))
   exact hh.out)):G:=h gx ⟨r⟩
theorem aK8{X R G:Prop}(gx:X)(r:R)(h:X->Hd R->G:=by
  (intro gx hh
   (repeat(first
    |(refine Fr.i ?_;simp only[aM,yAT,yAU];try rfl)
    |(refine By.i ?_;(focus(simp(disch:=first|omega|(simp;done)|(simp;omega)) [wrap_i64,wrap_u64,gx,entry,aY];first|done|rfl|exact⟨rfl,rfl⟩)))
    |(refine By.i ?_;simp(disch:=first|omega|(simp;done)|(simp;omega)) [wrap_i64,wrap_u64,gx,entry,aY];refine⟨yw,rfl⟩)
    |(refine Wt.i ?_;first|rfl|(focus(simp[gx,entry,aY];done)))
    |(refine Ns.i ?_;(try simp only[yAl,yAQ,yAR,yAi,yAa,yAK,yAL,yAp,Nat.reduceAdd]);rfl)|rfl
    |(apply SL.pass;(focus(refine Wt.i ?_;rfl)))|(apply tu;(focus rfl))|apply SL.move|apply SL.assign|apply SL.load|apply SL.gC|apply tu|apply SL.make|apply SL.binOp|apply SL.append
    |apply tu|apply SL.builtin|apply SL.fieldAddr|apply SL.indexAddr|apply SL.field|apply SL.extract|apply SL.gD|apply SL.pick|apply SL.store|apply SL.unOp|apply SL.convert|apply SL.index|apply SL.slice
    |apply SL.build|apply SL.nilCheck|apply SL.buildSlice|apply SL.box|apply SL.alloc|apply SL.makeFunc))
   exact hh.out)):G:=h gx ⟨r⟩
theorem aLc{X R G:Prop}(gx:X)(r:R)(h:X->Hd R->G:=by
  (intro gx hh
   (repeat(first
    |(refine Fr.i ?_;simp only[aM,yAT,yAU];try rfl)|(refine By.i ?_;(focus(simp(disch:=first|omega|(simp;done)|(simp;omega)) [wrap_i64,wrap_u64,gx];first|done|rfl|exact⟨rfl,rfl⟩)))
    |(refine By.i ?_;simp(disch:=first|omega|(simp;done)|(simp;omega)) [wrap_i64,wrap_u64,gx];refine⟨yw,rfl⟩)
    |(refine Wt.i ?_;first|rfl|(focus(simp;done)))
    |(refine Ns.i ?_;(try simp only[yAl,yAQ,yAR,yAi,yAa,yAK,yAL,yAp,Nat.reduceAdd]);rfl)|rfl
    |(apply SL.pass;(focus(refine Wt.i ?_;rfl)))|apply SL.ZQ underlying204|apply SL.ZR underlying204|(apply SL.ZS underlying20;(focus rfl))|(apply SL.ZT underlying20;(focus rfl))
    |(apply tu;(focus rfl))|apply SL.move|apply SL.assign|apply SL.load|apply SL.gC|apply tu|apply SL.make|apply SL.binOp|apply SL.append|apply tu|apply SL.builtin|apply SL.fieldAddr
    |apply SL.indexAddr|apply SL.field|apply SL.extract|apply SL.gD|apply SL.pick|apply SL.store|apply SL.unOp|apply SL.convert|apply SL.index|apply SL.slice|apply SL.build|apply SL.nilCheck|apply SL.buildSlice
    |apply SL.box|apply SL.alloc|apply SL.makeFunc))
   exact hh.out)):G:=h gx ⟨r⟩
theorem aF.addCases{P:Program}{E:aE}(hE:aF P E)(hP:P.follows .mixedOrders=true){f:FuncId}{g:List PD->Option PD}
  (h:∀args p,g args=some p->PD.eV (args.map PD.strip)=true/\p.bW=true/\∀(c:Cx) (vs:List Value),aK c vs (args.map PD.strip)->∃args1,aK c vs args1/\aJ P E f args1 p) :
  aF P (E.add f (λ_ args σ=>match g args with|some p=>some (p,σ)|none=>none)):=by
 refine⟨fun {F fl f' g' args c vs p σ'} hF hg hgo hs hX hv=>?_,hE.bD⟩;rw[aE.o3]at hg;split at hg
 .rename_i e;subst e;simp only[yAb]at hg;subst hg;cases hga:g args with
  |none=>simp only[hga]at hgo;cases hgo
  |some q=>
   simp only[hga,yAb,yAc]at hgo;obtain⟨rfl,rfl⟩:=hgo;obtain⟨e2,e3,hx⟩:=h args q hga;have fQ:aK c.bare vs (args.map PD.strip):=hv.strip.free (λa v h1 h2=>⟨(aBS a).2 h1,h2⟩) e2;obtain⟨args1,lQ,p1,σ1,⟨N,hN⟩,e1⟩:=hx c.bare vs fQ;have:=(UH hE hP hF N).fn (c:=c.bare) (hN N (yAk _)) hs.bare (λ_ _ h=>h.elim) lQ;exact ay
 .exact fh
theorem aVu{c:Cx}{vs:Ds}{n:Nat}(h:aK c vs [.slice n [] .any]):aK c vs [.slice n [] .vJ]\/aK c vs [.slice n [] .vK]:=by
 obtain⟨h1,h2⟩:=h
 match vs,h1 with
 | [v],_=>
   have hv:=h2 0 v _ rfl rfl;obtain⟨A,cap,fl,rfl,a1,a2,a3,a4,a5,a6,a7,a8⟩:=hv.oH;have one:∀d,VR c (.slice A ([]:List PD).length cap) d->aK c [.slice A ([]:List PD).length cap] [d]:=λd hd=>⟨rfl,λi v d' e1 e2=>by
    cases i with
    |zero=>simp at e1 e2;subst e1 e2;exact hd
    |succ i=>simp at e1⟩
   cases A with
   |none=>exact .inl (one _ (.slice none _ cap n [] .vJ fl rfl a1 a2 a3 a4 a5 a6 a7 ⟨_,_,rfl⟩))
   |some a=>exact .inr (one _ (.slice (some a) _ cap n [] .vK fl rfl a1 a2 a3 a4 a5 a6 a7 ⟨_,_,_,rfl⟩))
section
open Go
section
variable{P:Program}{call:b9}{fl:Nat}{ops:Du}
theorem aHU:∀(l:List Oper) (i k:Nat) (fr:List PD) (σ:List U) (tr:List TE) (fr':List PD) (σ':List U) (ρ:cG),
  pQ P call fl ops i k l fr σ=some (tr,fr',σ')->ρ.ok fr->∀j a b,(tr[j]?).bind TE.iQ=some a->(pT ρ l).getD j none=some b->a=b
 | [],_,_,_,_,_,_,_,_,_,_,_,_,_,_,h2=>by simp[pT]at h2
 |o::l,i,k,fr,σ,tr,fr',σ',ρ,h,hρ,j,a,b,h1,h2=>by
  simp only[pQ]at h;split at h
  .split at h
   .rename_i p σ1 hop;split at h
    .rename_i oL aH σ2 hrec;simp only[yAb,yAc]at h;obtain⟨rfl,rfl,rfl⟩:=h;cases j with
     |zero=>
      exact oq
     |succ j=>
      simp only[yBT]at h1;simp only[pT,yDB]at h2;refine aHU l _ _ _ _ _ _ _ _ hrec (cG.aCh hρ ?_) j a b h1 h2;exact ak
    .cases h
   .cases h
  .split at h
   .rename_i oL aH σ2 hrec;simp only[yAb,yAc]at h;obtain⟨rfl,rfl,rfl⟩:=h;cases j with
    |zero=>simp at h1
    |succ j=>
     simp only[yBT]at h1;simp only[pT,yDB]at h2;exact aHU l _ _ _ _ _ _ _ _ hrec (cG.aCh hρ λ_ _ _ hp=>by cases hp) j a b h1 h2
   .cases h
end
open Classical in
def FM(E:aE)(B:List Nat):b9:=λfl tg args σ=>match cW E fl tg args σ with
 |some (p,σ')=>if σ.length<=σ'.length/\(∀id∈B,id<σ.length->σ'[id]?=σ[id]?)then some (p,σ')else none
 |none=>none
theorem aDq{E:aE}{B:List Nat}{fl f:Nat}{g:Dj}{args:Dq}{σ σ':Dp}{p:PD}(hE:E f=some g)(h:g fl args σ=some (p,σ'))(hl:σ.length<=σ'.length)(hk:∀id∈B,id<σ.length->σ'[id]?=σ[id]?) :
  FM E B fl (.inl f) args σ=some (p,σ'):=by
 have e:cW E fl (.inl f) args σ=some (p,σ'):=by simp only[cW,hE,h]
 unfold FM;rw[e];simp only;rw[yAJ ⟨hl,hk⟩]
theorem a1y{E:aE}{B:List Nat}{fl:Nat}{tg:FuncId ⊕ Nat}{args:Dq}{σ σ':Dp}{p:PD}(h:FM E B fl tg args σ=some (p,σ')):cW E fl tg args σ=some (p,σ')/\σ.length<=σ'.length/\∀id∈B,id<σ.length->σ'[id]?=σ[id]?:=by
 unfold FM at h;split at h
 .rename_i p1 σ1 e;split at h
  .rename_i hc;simp only[yAb,yAc]at h;obtain⟨rfl,rfl⟩:=h;exact⟨e,hc⟩
  .cases h
 .cases h
section
variable{P:Program}{E:aE}{fl:Nat}{ops:Du}
theorem TE.aOu{t:TE}{tr:List TE}{E2:Dp}:TE.at (t::tr) E2 0=t.σ:=rfl
theorem TE.WO{t:TE}{tr:List TE}{E2:Dp}{j:Nat}:TE.at (t::tr) E2 (j+1)=TE.at tr E2 j:=by simp[TE.at]
theorem TE.aOv{tr:List TE}{σ:Dp}{fr fr':Dq}{σ':Dp}{call:b9}{i k:Nat}{l:List Oper}(h:pQ P call fl ops i k l fr σ=some (tr,fr',σ')):TE.at tr σ' 0=σ:=by
 cases l with
 |nil=>
  simp only[pQ,yAb,yAc]at h;obtain⟨rfl,_,rfl⟩:=h;rfl
 |cons o l=>
  simp only[pQ]at h;split at h
  .split at h
   .exact qj
   .cases h
  .exact qj
def WQ(ops:List Oper)(ρ:cG):List (Option Nat):=vC ops [] λms=>
 (List.range ops.length).flatMap λk=>if eL cR ops k then(List.range ops.length).filterMap λi=>if eL dE ops i&&loose ms i k then some ((pT ρ ops).getD i none)else none else []
def wC(B:List Nat):List (Option Nat)->Prop
 | []=>True
 |some a::l=>a∈B/\wC B l
 |none::_=>False
theorem aOw{B:List Nat}:∀ {l:List (Option Nat)},wC B l->∀x,x∈l->∃a,x=some a/\a∈B
 | [],_,_,h=>zk
 |some a::l,h,x,hm=>by
  rcases yAS.1 hm with rfl|hm
  .exact⟨a,rfl,h.1⟩
  .exact aOw h.2 x hm
 |none::_,h,_,_=>h.elim
def aHV(f:Oper->Bool)(ops:List Oper)(i:Nat):Bool:=((ops[i]?).map f).getD false
def aHW(f:Nat)(o:Oper):Bool:=o.guard.isNone&&(match o.op with
 |.call { callee:=.value (.func g),.. }=>decide (g=f)
 |_=>false)
end
def oC(P:Program)(E:aE)(f:FuncId)(Q:List PD->List U->PD->List U->Prop):Nat->List PD->List U->Option (PD×List U):=λfl args σ=>if fl=0 then jU P E f Q 0 args σ else none
theorem aNr{P:Program}{E:aE}{f:FuncId}{Q:List PD->List U->PD->List U->Prop}:∀fl args σ,0<fl->oC P E f Q fl args σ=none:=λfl args σ h=>by
 unfold oC;rw[yAI ym]
theorem aHb{P:Program}{E:aE}{f:FuncId}{Q:List PD->List U->PD->List U->Prop}{args:Dq}{σ:Dp}(h:cF P E 0 (.inl f) args σ (Q args σ)):∃p σ',oC P E f Q 0 args σ=some (p,σ')/\Q args σ p σ':=by
 unfold oC;rw[yAJ rfl];exact aCm h
theorem aF.aGt{P:Program}{E:aE}(hE:aF P E)(hP:P.follows .mixedOrders=true){f:FuncId}{Q:List PD->List U->PD->List U->Prop}:aF P (E.add f (oC P E f Q)):=
 hE.add hP λfl args σ p σ' h=>by
  unfold oC at h;split at h
  .rename_i e;subst e;exact(ZU h).1
  .cases h
theorem aG.oC{P:Program}{E:aE}(hU:aG E){f:FuncId}{Q:List PD->List U->PD->List U->Prop}(hQ:∀args p,¬Q args [] p []):aG (E.add f (oC P E f Q)):=
 hU.other λargs p h=>by
  unfold Kz.oC at h;rw[yAJ rfl]at h;exact hQ args p (ZU h).2
end
theorem aJq{F:Fence}{P:Program}(hF:Open F P)(m:Machine):m.fenced P F:=by
 intro g _;refine⟨λh=>?_,Or.inl (hF.fn _),λ_ _=>hF.fn _,λ_ h=>?_⟩
 .rw[hF.alive]at h;cases h
 .rw[hF.depth]at h;cases h
theorem aR8{F:Fence}{P:Program}(hF:Open F P){m m':Machine}{e:Ending}(h:Comes P m m' e):ComesIn (Machine.fenced P F) P m m' e:=by
 cases e with
 |returned v=>exact(StepsIn.of_steps h).mono λm _=>aJq hF m
 |panicked chain=>exact(StepsIn.of_steps h).mono λm _=>aJq hF m
 |outgrown=>exact h
theorem aR9{F:Fence}{P:Program}(hF:Open F P){n:Nat}{f:FuncId}{args:Dt}{w:World}{R:Ending->World->Prop}(h:Calls P f args w R):CallsIn F n P f args w R:=
 ⟨hF.fn f,λcs _=>let ⟨e,w',fr,r,s,x⟩:=h cs;⟨e,w',fr,r,aR8 hF s,x⟩⟩
theorem aF.YI{P:Program}{E:aE}(hE:aF P E){f:FuncId}{g:Dj}(hf:∃fn,P.funcs[f]?=some fn/\fn.body.isSome=true)
  (h:∀(fl:Nat) (args:List PD) (c:Cx) (vs:List Value) (p:PD) (σ':List U),g fl args c.σ=some (p,σ')->Sr c->Xw fl c->aK c vs args->Calls P f vs.toArray c.w (MJ fl c p σ')):aF P (E.add f g):=by
 refine⟨fun {F fl f' g' args c vs p σ'} hF hg hgo hs hX hv=>?_,hE.bD⟩;rw[aE.o3]at hg;split at hg
 .rename_i e;subst e;simp only[yAb]at hg;subst hg;exact⟨hf,λm=>aR9 hF (h fl args c vs p σ' hgo hs hX hv)⟩
 .exact fh
theorem aF.J5{P:Program}{E:aE}(hE:aF P E){f:FuncId}{g:List PD->Option PD}(hf:∃fn,P.funcs[f]?=some fn/\fn.body.isSome=true)
  (h:∀(args:List PD) (c:Cx) (vs:List Value) (p:PD),g args=some p->Sr c->aK c vs args->Calls P f vs.toArray c.w λe w'=>∃v,e=.returned v/\c.w.grownBy w' none/\(Sr (c.at w')->VR (c.at w') v p)):aF P (E.add f (entry g)):=by
 refine hE.YI hf λfl args c vs p σ' hg hs _ hv=>?_
 unfold entry at hg;cases hga:g args with
 |none=>rw[hga]at hg;cases hg
 |some q=>
  rw[hga]at hg;simp only[yAb,yAc]at hg;obtain⟨rfl,rfl⟩:=hg;refine yBp (h args c vs q hga hs hv) λe w' he=>?_
  obtain⟨v,rfl,hgr,hvv⟩:=he;have hs':=hs.grow hgr;exact⟨c.at w',rfl,rfl,hs',Nx.grow hs hgr,hvv hs',λ_ h=>.inl h⟩
theorem aBI(w:World):w.grownBy w none:=⟨rfl,rfl,rfl,yAk _,λ_ _ _=>rfl⟩
theorem aSa{c:Cx}{w':World}{a:Addr}(hs:Sr c)(h:c.w.heap.size<=a.block):(c.at w').av a:=by
 exact cj
theorem TY{c:Cx}{vs:Ds}{p:PD}(h:aK c vs [p]):∃v,vs=[v]/\VR c v p:=by
 match vs,h.1 with
 | [v],_=>exact⟨v,rfl,h.2 0 _ _ rfl rfl⟩
theorem MI{c:Cx}{vs:Ds}{p q:PD}(h:aK c vs [p,q]):∃v u,vs=[v,u]/\VR c v p/\VR c u q:=by
 match vs,h.1 with
 | [v,u],_=>exact⟨v,u,rfl,h.2 0 _ _ rfl rfl,h.2 1 _ _ rfl rfl⟩
theorem VR.int_eq{c:Cx}{v:Value}{k:IntKind}{n:Int}(h:VR c v (.int k n)):v=.int k n:=Bf
theorem VR.EL{c:Cx}{v:Value}{s:Dr}(h:VR c v (.str s)):v=.string ⟨s.toArray⟩:=Bf
theorem aSb{α β:Type}{a:Em α}{r:Em β}{F:α->Option β}{args:Dq}{p:PD}(h:aY a r F args=some p):∃x z,args.map PD.strip=[a.aA x]/\F x=some z/\p=r.aA z:=by
 match args,h with
 | [q],h=>
   simp only[aY]at h;split at h
   .rename_i x hx;split at h
    .rename_i z hz;simp only[yAb]at h;exact⟨x,z,by simp[Em.sT hx],hz,h.symm⟩
    .cases h
   .cases h
theorem YJ{α β γ:Type}{a:Em α}{b:Em β}{r:Em γ}{F:α->β->Option γ}{args:Dq}{p:PD}(h:cU a b r F args=some p):∃x y z,args.map PD.strip=[a.aA x,b.aA y]/\F x y=some z/\p=r.aA z:=by
 match args,h with
 | [q1,q2],h=>
   simp only[cU]at h;split at h
   .rename_i x y hx hy;split at h
    .rename_i z hz;simp only[yAb]at h;exact⟨x,y,z,by simp[Em.sT hx,Em.sT hy],hz,h.symm⟩
    .cases h
   .cases h
section
section
variable{c:Cx}{w':World}{id n cap g size:Nat}{e:TypeId}{cur:Dt}{fz ZN:Nat×Nat}
theorem aUm(hg:c.w.heap[g]?=some (.cells cur e fz))(h1:∀k,k≠g->w'.heap[k]?=c.w.heap[k]?)(h2:w'.heap[g]?=some (.cells cur e ZN))(a:Addr):w'.cell? a=c.w.cell? a:=by
 unfold World.cell?
 by_cases h:a.block=g
 .rw[h,hg,h2]
 .rw[h1 _ h]
theorem Nx.T1{fl:Nat}(hd:c.D id)(hρ:c.ρ id=.slice (some ⟨g,0,none⟩) n cap)(hfl:fl<=id)(hg:c.w.heap[g]?=some (.cells cur e fz))
  (h0:w'.os=c.w.os/\w'.tape=c.w.tape/\w'.output=c.w.output/\w'.heap.size=c.w.heap.size) (h1:∀k,k≠g->w'.heap[k]?=c.w.heap[k]?) (h2:w'.heap[g]?=some (.cells cur e ZN)):Nx fl c (c.at w') where
 X:=rfl
 os:=h0.1
 tape:=h0.2.1
 output:=h0.2.2.1
 size:=yCS h0.2.2.2.symm
 len:=yAk _
 cell:=λa v ha hv=>⟨ha,by show w'.cell? a=_;rw[aUm hg h1 h2];exact hv⟩
 aZ:=λ_ h=>h
 new:=λ_ h=>.inl h
 vI:=λ_ p _ h=>⟨rfl,p,h⟩
 mU:=λ_ _ h=>⟨rfl,h⟩
 xZ:=λ_ _ _ n _ h=>⟨n,h,yAk _,λ_=>rfl⟩
 x5:=λ_ _ _ v cs _ h=>⟨v,cs,h,yAk _,λ_=>rfl⟩
 back:=λ_ _ h h' _=>⟨h,h'⟩
 frame:=λk _ hx=>h1 k λe=>hx id hd hfl (by rw[hρ,e];rfl)
 ro:=λ_ _ _=>rfl
 hole:=λ_ _ _=>rfl
theorem Sr.T1(hs:Sr c)(hd:c.D id)(hq:c.σ[id]?=some (.own e size n))(hρ:c.ρ id=.slice (some ⟨g,0,none⟩) n cap)(hg:c.w.heap[g]?=some (.cells cur e fz))
  (h0:w'.os=c.w.os/\w'.tape=c.w.tape/\w'.output=c.w.output/\w'.heap.size=c.w.heap.size) (h1:∀k,k≠g->w'.heap[k]?=c.w.heap[k]?) (h2:w'.heap[g]?=some (.cells cur e ZN)) (h3:ZN.2<=n*size):Sr (c.at w'):=by
 have hb:aW (c.ρ id)=some g:=by rw[hρ];rfl
 have nx:Nx 0 c (c.at w'):=Nx.T1 hd hρ (yAF _) hg h0 h1 h2;have far:∀i b,c.D i->i≠id->aW (c.ρ i)=some b->w'.heap[b]?=c.w.heap[b]?:=λi b hi hne hbi=>h1 b λe'=>hs.inj i id b hi hd hne hbi (by rw[e'];exact hb)
 have hne:∀i (o:U),c.σ[i]?=some o->(∀e s m,o≠.own e s m)->i≠id:=λi o ho hno e'=>by
  subst e';rw[hq]at ho;simp only[yAb]at ho;exact hno _ _ _ ho.symm
 refine⟨?_,?_,?_,?_,?_,?_,hs.inj,?_,hs.aZ,?_,hs.iG.mono nx⟩
 .intro i p hi hp;obtain⟨b',cs',T',e1,e2,e3,e4⟩:=hs.box i p hi hp;exact⟨b',cs',T',e1,by show w'.heap[b']?=_;rw[far i b' hi (hne i _ hp (λ_ _ _ e=>zh)) Bt];exact e2,e3.mono nx,e4⟩
 .intro i e0 s m hi ho
  by_cases hii:i=id
  .subst hii;have ho':c.σ[i]?=some (.own e0 s m):=ho;rw[hq]at ho';simp only[yAb,U.own.injEq]at ho';obtain⟨rfl,rfl,rfl⟩:=ho';obtain⟨xs,hx⟩:=hs.own i _ _ _ hi hq;refine⟨xs,hx.1,?_⟩;rcases hx.2 with hv | ⟨g1,a8x,aTW,fz1,hv,mD,mE,_,r⟩
   .rw[hρ]at hv;simp at hv
   .rw[hρ]at hv;simp only[yBG,yAb,yBt,yAV]at hv;obtain⟨rfl,_,rfl⟩:=hv;rw[hg]at mE;simp only[yAb,Obj.cells.injEq]at mE;obtain⟨rfl,_,rfl⟩:=mE;exact .inr ⟨g,cap,cur,ZN,hρ,mD,h2,h3,r⟩
  .obtain⟨xs,hx⟩:=hs.own i e0 s m hi ho;exact⟨xs,O6 hx (λg' hg'=>far i g' hi hii hg')⟩
 .intro i e0 sz ver ds hi ho;obtain⟨b',C,cur,e1,e2,e3,e4,e5,e6,e7,e8⟩:=hs.row i e0 sz ver ds hi ho;exact⟨b',C,cur,e1,by show w'.heap[b']?=_;rw[far i b' hi (hne i _ ho (λ_ _ _ e=>zh)) Bt];exact e2,e3,e4,e5,e6,e7.mono nx,e8⟩
 .intro i es hi ho;obtain⟨b',ents,clock,e1,e2,e3,e4⟩:=hs.map i es hi ho;exact⟨b',ents,clock,e1,by show w'.heap[b']?=_;rw[far i b' hi (hne i _ ho (λ_ _ _ e=>zh)) Bt];exact e2,e3.mono nx,e4.mono nx⟩
 .intro i hi hm;obtain⟨b',e1,e2⟩:=hs.mark i hi hm;exact⟨b',e1,by show w'.heap[b']?=_;rw[far i b' hi (hne i _ hm (λ_ _ _ e=>zh)) Bt];exact e2⟩
 .intro i st fr ps asg bd hi hm;obtain⟨b',r,e1,e2,e3,e4,e5,e6,e7⟩:=hs.loop i st fr ps asg bd hi hm;exact⟨b',r,e1,by show w'.heap[b']?=_;rw[far i b' hi (hne i _ hm (λ_ _ _ e=>zh)) Bt];exact e2,e3,e4,e5,e6.mono nx,e7⟩
 .intro i b hi hbi;show b<w'.heap.size
  rw[h0.2.2.2];exact hs.lt i b hi hbi
 .intro a ha;have:w'.heap.size<=a.block:=ha;rw[h0.2.2.2]at this;exact hs.fresh a this
end
def J3:List PD->Option (List UInt8)
 | []=>some []
 |.int .u8 n::r=>if 0<=n/\n<256 then(match J3 r with|some l=>some (UInt8.ofNat n.toNat::l)|none=>none)else none
 |_=>none
@[simp] theorem aCf:∀l:List UInt8,J3 (l.map λb=>PD.int .u8 b.toNat)=some l
  | []=>rfl
  |b::r=>by
   have hb:(b.toNat:Int)<256:=by have:=b.toNat_lt;omega
   have h0:(0:Int)<=(b.toNat:Int):=ym;simp only[yAX,J3,hb,h0,yCw,yAM,aCf r,yBk];simp
theorem aEv:∀ {xs:Dq} {l:Dr},J3 xs=some l->xs=l.map λb=>PD.int .u8 b.toNat
 | [],l,h=>by simp only[J3,yAb]at h;subst h;rfl
 |x::r,l,h=>by
  unfold J3 at h;split at h
  .cases ‹_::_=[]›
  .rename_i n r' heq;simp only[yBx]at heq;obtain⟨rfl,rfl⟩:=heq;split at h
   .rename_i hn;split at h
    .rename_i l' hl;simp only[yAb]at h;subst h;rw[yAX,<-aEv hl]
     congr 2
     have:(UInt8.ofNat n.toNat).toNat=n.toNat:=by
      simp only[yDA];omega
     omega
    .cases h
   .cases h
  .cases h
end
def E7(n:Nat)(k:Nat)(cs:List PD):List PD:=if n=1 then cs.take k else E3 n k cs
def dP(σ:List U):Nat->PD->PD
 |0,p=>p
 |k+1,.agg cs=>.agg (cs.map (dP σ k))
 |k+1,.aI cs=>.aI (cs.map (dP σ k))
 |k+1,.slice n xs _=>.slice n (xs.map (dP σ k)) .any
 |k+1,.cL id off n sz=>match σ[id]? with
  |some (.box q)=>if off+n*sz<=q.cells.length then .slice sz (E7 sz n ((q.cells.drop off).map (dP σ k))) .any else .cL id off n sz
  |_=>.cL id off n sz
 |k+1,.eB id ver off n sz=>match σ[id]? with
  |some (.row _ sz' fH cs)=>if fH=ver/\sz'=sz/\off+n*sz<=cs.length then .slice sz (E7 sz n ((cs.drop off).map (dP σ k))) .any else .eB id ver off n sz
  |_=>.eB id ver off n sz
 |k+1,.iface t p=>.iface t (dP σ k p)
 |_+1,p=>p
theorem aLv(σ:List U):∀(k:Nat) (p:PD),p.plain=true->(dP σ k p).plain=true
 |0,p,h=>h
 |k+1,p,h=>by
  cases p<;>simp only[dP]<;>first
   |rfl
   |exact h
   |(simp[PD.plain]at h;done)
   |(split
     .split<;>rfl
     .rfl)
theorem aUU(σ:List U):∀(k:Nat) (p:PD) (j:Nat) (d:PD),(dP σ k p).cells[j]?=some d->∃k' d0,k'<=k/\p.cells[j]?=some d0/\d=dP σ k' d0
 |0,p,j,d,h=>⟨0,d,yAk _,h,rfl⟩
 |k+1,p,j,d,h=>by
  by_cases hty:∃t cs,p=.typed t cs
  .obtain⟨t,cs,rfl⟩:=hty;exact⟨0,d,yAF _,h,rfl⟩
  have hp:∀t cs,p≠.typed t cs:=λt cs e=>hty ⟨t,cs,e⟩
  by_cases ha:∃cs,p=.agg cs
  .obtain⟨cs,rfl⟩:=ha;simp only[dP,PD.cells,yAo]at h;cases hj:cs[j]? with
   |none=>rw[hj]at h;cases h
   |some d0=>
    rw[hj]at h;simp only[yAC,yAb]at h;exact⟨k,d0,ym,by simpa [PD.cells]using hj,h.symm⟩
  .have hpl:p.plain=true\/∃vs,p=.aI vs:=by
    cases p<;>first|exact .inl rfl|exact .inr ⟨_,rfl⟩ | exact absurd ⟨_,rfl⟩ ha|exact absurd rfl (hp _ _)
   have h1:p.cells=[p]:=by
    rcases hpl with h | ⟨vs,rfl⟩
    .cases p<;>first|rfl|(simp[PD.plain]at h;done)
    .rfl
   have h2:(dP σ (k+1) p).cells=[dP σ (k+1) p]:=by
    rcases hpl with h | ⟨vs,rfl⟩
    .have:=aLv σ (k+1) p h
     generalize dP σ (k+1) p=q at *
     cases q<;>first|rfl|(simp[PD.plain]at this;done)
    .rfl
   rw[h2]at h;cases j with
   |zero=>
    simp only[yBD,yAb]at h;exact⟨k+1,p,yAk _,by rw[h1];rfl,h.symm⟩
   |succ j=>simp at h
theorem aLw(σ:List U)(k:Nat)(p:PD):(dP σ k p).cells.length=p.cells.length:=by
 cases k with
 |zero=>rfl
 |succ k=>
  cases p<;>simp only[dP]<;>first
   |rfl
   |(simp[PD.cells];done)
   |(split
     .split<;>rfl
     .rfl)
theorem aLx(σ:List U)(k:Nat):∀(xs:List PD) (j:Nat) (d:PD),((xs.map (dP σ k)).flatMap PD.cells)[j]?=some d->∃k' d0,k'<=k/\(xs.flatMap PD.cells)[j]?=some d0/\d=dP σ k' d0
 | [],j,d,h=>Aa
 |x::xs,j,d,h=>by
  simp only[yAX,yBg]at h ⊢;have hl:=aLw σ k x;rw[yCR]at h ⊢;rw[hl]at h;split at h
  .rename_i hj;rw[yAJ hj];exact aUU σ k x j d h
  .rename_i hj;rw[yAI hj];exact aLx σ k xs _ d h
theorem aUV{n k:Nat}{cs:Dq}(h:k*n<=cs.length):(E7 n k cs).length=k:=by
 unfold E7;split
 .rename_i h1;subst h1;simp;omega
 .exact O7 n k cs
theorem aLy:∀ {cs:Dq},(∀d∈cs,d.plain=true)->cs.flatMap PD.cells=cs
 | [],_=>rfl
 |x::xs,h=>by
  have hx:x.cells=[x]:=by
   have:=h x yo;cases x<;>first|rfl|(simp[PD.plain]at this;done)
  rw[yBg,hx,aLy (λd hd=>h d (by simp[hd]))];rfl
theorem aUW{n k:Nat}{cs:Dq}(h:k*n<=cs.length)(hp:∀d∈cs,d.plain=true):(E7 n k cs).flatMap PD.cells=cs.take (k*n):=by
 unfold E7;split
 .rename_i h1;subst h1;rw[aLy (λd hd=>hp d (yAy hd)),yCn]
 .exact aB3 n k cs h
theorem aUX{n k:Nat}{cs:Dq}(h:k*n<=cs.length)(hp:∀d∈cs,d.plain=true):∀x∈E7 n k cs,x.cells.length=n:=by
 unfold E7;split
 .rename_i h1;subst h1;intro x hx;have:=hp x (yAy hx);cases x<;>first|rfl|(simp[PD.plain]at this;done)
 .exact aB4 n k cs h
theorem aUY{c:Cx}{cs:Ds}{ds:Dq}(h:aK c cs ds)(h1:∀v∈cs,v.oneCell'=true):∀d∈ds,d.plain=true:=by
 intro d hd;obtain⟨i,hi⟩:=yCH hd;have hlt:i<cs.length:=by rw[h.1];exact(yA.1 hi).1
 have:=(h.2 i cs[i] d Cd hi).plain;rw[this];exact h1 _ (yAm hlt)
theorem VC{xs:Dq}(h:PD.eV xs=true){d:PD}(hd:d∈xs):d.bW=true:=by
 rw[PD.G2]at h;exact yAn.1 h d hd
theorem aLz{x:PD}(h:x.bW=true){d:PD}(hd:d∈x.cells):d.bW=true:=by
 cases x with
 |agg cs=>simp only[PD.bW]at h;exact VC h hd
 |typed t cs=>simp only[PD.bW]at h;exact VC h hd
 |_=>simp only[PD.cells,yBY]at hd;rw[hd];exact h
theorem aUZ{c1 c2:Cx}(hs:Sr c1)(hw:c2.w=c1.w)(hav:∀a,c1.av a->c2.av a)(hnew:∀id b,c1.D id->aW (c1.ρ id)=some b->∀j,c2.av ⟨b,j,none⟩) :
  ∀(k:Nat) (v:Value) (p:PD),VR c1 v p->(dP c1.σ k p).bW=true->VR c2 v (dP c1.σ k p):=by
 have up:∀a v,c1.av a->c1.w.cell? a=some v->c2.av a/\c2.w.cell? a=some v:=λa v h1 h2=>⟨hav a h1,by rw[hw];exact h2⟩
 have row:∀(b off n cap sz C:Nat) (cells:List Value) (ds:List PD) (T:TypeId) (cur:Array Value) (k:Nat),(∀k'≤k,∀v p,VR c1 v p->(dP c1.σ k' p).bW=true->VR c2 v (dP c1.σ k' p))->c1.w.heap[b]?=some (.cells cur T (0,0))->(∀j,c2.av ⟨b,j,none⟩) ->
   (∀(j:Nat) (v:Value),cells[j]?=some v->cur.toList[j]?=some v)->aK c1 cells ds->(∀v∈cells,v.oneCell'=true)->off+n*sz<=ds.length->n<=cap->cap<=maxLen ->
   (PD.slice sz (E7 sz n ((ds.drop off).map (dP c1.σ k))) .any).bW=true->VR c2 (.slice (some ⟨b,off,none⟩) n cap) (.slice sz (E7 sz n ((ds.drop off).map (dP c1.σ k))) .any):=by
  intro b off n cap sz C cells ds T cur k ih hb hbv hc hv h1 hle hn hm hf;have hpd:=aUY hv h1;have hpl:∀d∈(ds.drop off).map (dP c1.σ k),d.plain=true:=λd hd=>by
   obtain⟨d0,vF,rfl⟩:=yAw.1 hd;exact aLv _ _ _ (hpd d0 (yBJ vF))
  have hlen:n*sz<=((ds.drop off).map (dP c1.σ k)).length:=zc;have hcl:cells.length=ds.length:=hv.1;have hfl:=aUW hlen hpl;refine .slice (some ⟨b,off,none⟩) n cap sz _ .any ((cells.drop off).take (n*sz)) (aUV hlen).symm hn hm (aUX hlen hpl) (by rw[yAt,yBf];omega) (λv jR=>h1 v (yBJ (yAy jR))) ?_ ?_ trivial
  .intro j v hj;refine⟨_,rfl,?_,?_⟩
   .rw[KE,hw];simp only[World.cell?,hb];rw[yAv]at hj;split at hj
    .rw[yBy]at hj;simpa using hc _ v hj
    .cases hj
   .rw[KE];exact hbv _
  .intro j v d hj hd;rw[hfl,yAv]at hd;rw[yAv]at hj;split at hj
   .rename_i hjn;rw[yAJ hjn,yAo]at hd;rw[yBy]at hj;cases h0:(ds.drop off)[j]? with
    |none=>rw[h0]at hd;cases hd
    |some d0=>
     rw[h0]at hd;simp only[yAC,yAb]at hd;subst hd;rw[yBy]at h0;refine ih k (yAk _) v d0 (hv.2 _ v d0 hj h0) ?_;have hmem:dP c1.σ k d0∈(E7 sz n ((ds.drop off).map (dP c1.σ k))).flatMap PD.cells:=by
      rw[hfl];refine yAE (i:=j) ?_;rw[yAv,yAJ hjn,yAo,yBy,h0];rfl
     obtain⟨x,hx,hxd⟩:=yCt.1 hmem;simp only[PD.bW,yAr]at hf;exact aLz (VC hf.1 hx) hxd
   .cases hj
 intro k
 induction k using Nat.strongRecOn with
 |_ k ih=>
  intro v p hv hf;cases k with
  |zero=>exact hv.free up hf
  |succ k=>
   cases hv with
   |bool b=>exact .bool b
   |int kk n=>exact .int kk n
   |str s=>exact .str s
   |cQ=>exact .cQ
   |iC=>exact .iC
   |bG v h=>exact .bG v h
   |agg cs ds hl h1 h2=>
    simp only[dP]at hf ⊢;simp only[PD.bW]at hf;refine .agg cs _ Al h1 (λi u d hu hd=>?_);exact ew
   |aI cs ds hl h2=>
    simp only[dP]at hf ⊢;simp only[PD.bW]at hf;refine .aI cs _ Al (λi u d hu hd=>?_);exact ew
   |iface t u q hq=>
    simp only[dP]at hf ⊢;simp only[PD.bW]at hf;exact .iface t u _ (ih k ym u q hq hf)
   |slice A n cap size xs tok fl hn hc hm hx hfl h1 hcell h2 ht=>
    simp only[dP]at hf ⊢;simp only[PD.bW,yAr]at hf;refine .slice A n cap size _ .any fl Br hc hm ?_ hfl h1 (λj u hj=>?_) (λj u d hj hd=>?_) trivial
    .intro y hy;obtain⟨x,hxm,rfl⟩:=yAw.1 hy;rw[aLw];exact hx x hxm
    .obtain⟨ad,e,g1,g2⟩:=hcell j u hj;obtain⟨q1,q2⟩:=up _ _ g2 g1;exact⟨ad,e,q2,q1⟩
    .obtain⟨k',d0,hk,h0,rfl⟩:=aLx c1.σ k xs j d hd;refine ih k' ym u _ (h2 j u d0 hj h0) ?_;obtain⟨y,hy,hyd⟩:=yCt.1 (yAE hd);exact aLz (VC hf.1 hy) hyd
   |ptr id off b hd hq hr=>simp[dP,PD.bW]at hf
   |fD id ver off b hp=>simp[dP,PD.bW]at hf
   |fA id b hd hn hr=>simp[dP,PD.bW]at hf
   |yield id l hd hn hr=>simp[dP,PD.bW]at hf
   |cI ad fl ds off hl h1 hcl h2=>
    simp only[dP]at hf ⊢;exact(VR.cI ad fl ds off hl h1 hcl h2).free up hf
   |func f cs ds hl h2=>
    simp only[dP]at hf ⊢;exact(VR.func f cs ds hl h2).free up hf
   |jS f cs ds hl h2=>
    simp only[dP]at hf ⊢;exact(VR.jS f cs ds hl h2).free up hf
   |cL id off n cap size b hd hq hr h1 h2=>
    simp only[dP]at hf ⊢;split at hf
    .rename_i q hqq;split at hf
     .rename_i hle;rw[yAJ hle];obtain⟨b',cur,T,e1,e2,e3,e4⟩:=hs.box id q hd hqq;rw[hr]at e1;simp only[yBN,yAb,yBt,yAV]at e1;subst e1;exact row b off n cap size 0 cur.toList q.cells T cur k (λk' hk=>ih k' ym) e2 (hnew id b hd Ak) (λj v h=>h) e3 e4.1 hle h1 h2 hf
     .simp[PD.bW]at hf
    .simp[PD.bW]at hf
   |eB id ver off n cap size b hp h1 h2=>
    simp only[dP]at hf ⊢;split at hf
    .rename_i e sz' fH cs hqq;split at hf
     .rename_i hle;rw[yAJ hle];obtain⟨rfl,rfl,hle⟩:=hle;obtain⟨_,C,hr,_⟩:=(hp.2 _ _ _ cs hqq).2 rfl;obtain⟨b',C',cur,e1,e2,e3,e4,e5,e6,e7,e8⟩:=hs.row id e _ _ cs hp.1 hqq;rw[hr]at e1;simp only[yBG,yAb,yBt,yAV,yBM]at e1;obtain⟨rfl,rfl⟩:=e1;exact row b off n cap sz' 0 (cur.toList.take cs.length) cs e cur k (λk' hk=>ih k' ym) e2 (hnew id b hp.1 Ak) (λj v h=>by
       rw[yAv]at h;split at h
       .exact h
       .cases h) e7 (λv jR=>e8 v (yAy jR)) hle h1 h2 hf
     .simp[PD.bW]at hf
    .simp[PD.bW]at hf
theorem aF.aLi{P:Program}{E:aE}(hE:aF P E)(hP:P.follows .mixedOrders=true){f:FuncId}{g:List PD->Option PD}
  (h:∀args p,g args=some p->∃N k p1 σ1,cD P E N 0 (.inl f) (args.map PD.strip) []=some (p1,σ1)/\(dP σ1 k p1).strip=p/\(dP σ1 k p1).bW=true/\PD.eV (args.map PD.strip)=true) :
  aF P (E.add f (λ_ args σ=>match g args with|some p=>some (p,σ)|none=>none)):=by
 refine⟨fun {F fl f' g' args c vs p σ'} hF hg hgo hs hX hv=>?_,hE.bD⟩;rw[aE.o3]at hg;split at hg
 .rename_i e;subst e;simp only[yAb]at hg;subst hg;cases hga:g args with
  |none=>simp only[hga]at hgo;cases hgo
  |some q=>
   simp only[hga,yAb,yAc]at hgo;obtain⟨rfl,rfl⟩:=hgo;obtain⟨N,k,p1,σ1,hN,e1,e3,e2⟩:=h args q hga;have fQ:aK c.bare vs (args.map PD.strip):=hv.strip.free (λa v h1 h2=>⟨(aBS a).2 h1,h2⟩) e2;have:=(UH hE hP hF N).fn (c:=c.bare) hN hs.bare (λ_ _ h=>h.elim) fQ;refine⟨this.1,λm=>yBQ (this.2 m) λe w' he=>?_⟩;cases e with
   |returned v=>
    obtain⟨c1,rfl,rfl,hs1,nx,hvv,_⟩:=he;have hgr:c.w.grownBy c1.w none:=⟨nx.os,nx.tape,nx.output,nx.size,λk hk _=>nx.frame k hk (λ_ h=>h.elim)⟩;have hsc:=hs.grow hgr;refine⟨c.at c1.w,rfl,rfl,hsc,Nx.grow hs hgr,?_,λ_ h=>.inl h⟩;have hav:∀a,c1.av a->(c.at c1.w).av a:=λa h1=>by
     have h3:c1.X a:=h1.1;rw[nx.X]at h3;exact h3
    have hnew:∀id b,c1.D id->aW (c1.ρ id)=some b->∀j,(c.at c1.w).av ⟨b,j,none⟩:=λid b hd hb j=>by
     have hge:c.w.heap.size<=b:=by
      rcases yBF b c.w.heap.size with hlt|hge
      .exact(nx.back id b hd hb hlt).1.elim
      .exact hge
     refine⟨hs.fresh _ hge,λi o hi ho=>?_⟩;have key:∀b',aW (c.ρ i)=some b'->b≠b':=λb' hb' e=>by
      have:=hs.lt i b' hi hb';omega
     cases o with
     |none=>trivial
     |box p=>exact key
     |own e size n=>intro b' hb' e;exact absurd e (key b' hb')
     |row e size ver ds=>exact key
     |map es=>trivial
     |mark=>trivial
     |loop st fr ps asg bd=>trivial
    have:=(aUZ hs1 (c2:=c.at c1.w) rfl hav hnew k v p1 hvv e3).strip;rw[e1]at this;exact this
   |panicked ch=>exact he.elim
   |outgrown=>exact he.elim
 .exact fh
theorem aF.aU0{P:Program}{E:aE}(hE:aF P E)(hP:P.follows .mixedOrders=true){f:FuncId}{g:List PD->Option PD}
  (h:∀args p,g args=some p->∃k p1 σ1,mB P E 0 (.inl f) (args.map PD.strip) [] p1 σ1/\(dP σ1 k p1).strip=p/\(dP σ1 k p1).bW=true/\PD.eV (args.map PD.strip)=true) :
  aF P (E.add f (λ_ args σ=>match g args with|some p=>some (p,σ)|none=>none)):=
 hE.aLi hP λargs p hg=>by
  obtain⟨k,p1,σ1,⟨N,hN⟩,r⟩:=h args p hg;exact⟨N,k,p1,σ1,hN N (yAk _),r⟩
end Go.Kz
namespace Go.Kz
open Go Go.Proofs
@[simp] theorem Tryz.Y6:bI prog 3=some 1:=yp
@[simp] theorem Tryz.pz3:dT prog 3=some (.int .i64 0):=yp
@[simp] theorem Tryz.pe3:qR prog 3=some (1,8):=yp
@[simp] theorem Tryz.ps4:bI prog 4=some 1:=yp
@[simp] theorem Tryz.ps5:bI prog 5=some 1:=yp
@[simp] theorem Tryz.pz5:dT prog 5=some (.int .u8 0):=yp
@[simp] theorem Tryz.ps9:bI prog 9=some 1:=yp
@[simp] theorem Tryz.pz9:dT prog 9=some (.str []):=yp
@[simp] theorem Tryz.a7s:bI prog 23=some 2:=yp
@[simp] theorem Tryz.a7t:dT prog 23=some (.agg [.int .i64 0,.int .i64 0]):=yp
@[simp] theorem Tryz.a7u:bI prog 25=some 1:=yp
@[simp] theorem Tryz.a7v:dT prog 25=some (.int .i64 0):=yp
@[simp] theorem Tryz.a7w:bI prog 29=some 1:=yp
@[simp] theorem Tryz.a7x:bI prog 31=some 2:=yp
@[simp] theorem Tryz.a7y:dT prog 31=some (.agg [.int .i64 0,.int .i64 0]):=yp
@[simp] theorem Tryz.a7z:bI prog 36=some 7:=yp
@[simp] theorem Tryz.a7A:dT prog 36=some (.agg [.int .i64 0,.str [],.int .i64 0,.int .i64 0,.int .i64 0,.int .i64 0,.int .i64 0]):=yp
@[simp] theorem Tryz.a7B:bI prog 38=some 1:=yp
@[simp] theorem Tryz.a7C:bI prog 39=some 1:=yp
@[simp] theorem Tryz.a7D:bI prog 40=some 1:=yp
@[simp] theorem Tryz.a7E:bI prog 42=some 4:=yp
@[simp] theorem Tryz.a7F:dT prog 42=some (.agg [.str [],.slice 0 [] .full,.slice 0 [] .full,.slice 0 [] .full]):=yp
@[simp] theorem Tryz.a7G:bI prog 45=some 1:=yp
@[simp] theorem Tryz.a7H:bI prog 48=some 1:=yp
@[simp] theorem Tryz.a7I:bI prog 49=some 1:=yp
@[simp] theorem Tryz.a7J:bI prog 50=some 1:=yp
@[simp] theorem Tryz.a7K:bI prog 52=some 3:=yp
@[simp] theorem Tryz.a7L:bI prog 59=some 2:=yp
@[simp] theorem Tryz.a7M:dT prog 59=some (.agg [.int .i64 0,.int .i64 0]):=yp
@[simp] theorem Tryz.a7N:bI prog 60=some 1:=yp
@[simp] theorem Tryz.a7O:bI prog 62=some 5:=yp
@[simp] theorem Tryz.a7P:dT prog 62=some (.agg [.str [],.bool false,.int .i64 0,.int .i64 0,.slice 0 [] .full]):=yp
@[simp] theorem Tryz.a7Q:bI prog 63=some 1:=yp
@[simp] theorem Tryz.a7R:bI prog 65=some 4:=yp
@[simp] theorem Tryz.a7S:dT prog 65=some (.agg [.str [],.int .i64 0,.int .i64 0,.slice 0 [] .full]):=yp
@[simp] theorem Tryz.a7T:bI prog 82=some 1:=yp
@[simp] theorem Tryz.a7U:bI prog 84=some 6:=yp
@[simp] theorem Tryz.a7V:dT prog 84=some (.agg [.str [],.str [],.int .i64 0,.int .i64 0,.int .i64 0,.slice 0 [] .full]):=yp
@[simp] theorem Tryz.a7W:qR prog 84=some (6,80):=yp
@[simp] theorem Tryz.a7X:bI prog 96=some 1:=yp
@[simp] theorem Tryz.a7Y:dT prog 96=some (.int .u64 0):=yp
@[simp] theorem Tryz.a7Z:qR prog 96=some (1,8):=yp
@[simp] theorem Tryz.a71:bI prog 104=some 1:=yp
@[simp] theorem Tryz.a73:bI prog 106=some 4:=yp
@[simp] theorem Tryz.a74:dT prog 106=some (.agg [.int .u8 0,.int .u8 0,.bool false,.slice 0 [] .full]):=yp
@[simp] theorem Tryz.a77:bI prog 108=some 1:=yp
@[simp] theorem Tryz.a78:bI prog 109=some 5:=yp
@[simp] theorem Tryz.a79:bI prog 111=some 9:=yp
@[simp] theorem Tryz.a8a:bI prog 114=some 4:=yp
@[simp] theorem Tryz.a8b:bI prog 116=some 4:=yp
@[simp] theorem Tryz.a8c:dT prog 116=some (.agg [.int .u8 0,.int .u8 0,.int .i8 0,.bool false]):=yp
@[simp] theorem Tryz.a8d:bI prog 118=some 5:=yp
@[simp] theorem Tryz.a8e:dT prog 118=some (.agg [.str [],.int .i64 0,.int .i64 0,.int .i64 0,.bool false]):=yp
@[simp] theorem Tryz.a8f:bI prog 123=some 2:=yp
@[simp] theorem Tryz.a8g:dT prog 125=some (.agg [.cQ,.slice 0 [] .full,.int .i64 0]):=yp
@[simp] theorem Tryz.a8h:bI prog 127=some 1:=yp
@[simp] theorem Tryz.a8i:bI prog 129=some 3:=yp
@[simp] theorem Tryz.a8j:dT prog 129=some (.agg [.int .i64 0,.int .i64 0,.slice 0 [] .full]):=yp
@[simp] theorem Tryz.a8k:bI prog 131=some 2:=yp
@[simp] theorem Tryz.a8l:dT prog 131=some (.agg [.int .i64 0,.int .i64 0]):=yp
@[simp] theorem Tryz.a8m:bI prog 156=some 3:=yp
@[simp] theorem Tryz.a8n:dT prog 156=some (.agg [.str [],.str [],.str []]):=yp
@[simp] theorem Tryz.a8o:bI prog 167=some 1:=yp
@[simp] theorem Tryz.a8p:bI prog 170=some 1:=yp
@[simp] theorem Tryz.a8q:dT prog 170=some (.agg [.cQ]):=yp
@[simp] theorem Tryz.a8r:bI prog 188=some 3:=yp
@[simp] theorem Tryz.a8s:dT prog 188=some (.agg [.slice 0 [] .full,.int .i64 0,.int .i64 0]):=yp
@[simp] theorem Tryz.a8t:dT prog 196=some (.agg [.int .i64 0,.int .i64 0,.int .i64 0]):=yp
@[simp] theorem Tryz.a8u:bI prog 204=some 3:=yp
@[simp] theorem Tryz.a8v:dT prog 204=some (.agg [.int .i64 0,.int .i64 0,.int .i64 0]):=yp
@[simp] theorem Tryz.a8w:dT prog 208=some (.agg [.slice 0 [] .full,.int .i64 0]):=yp
attribute [simp] underlying1 underlying2 underlying3 underlying4 underlying5 underlying6 underlying7 underlying8 underlying9 underlying10 underlying11 underlying12 underlying13 underlying14 underlying15 underlying16 underlying17 underlying18 underlying19 underlying20 underlying21 underlying22 underlying23 underlying24 underlying25 underlying27 underlying28 underlying29 underlying30 underlying31 underlying33 underlying34 underlying35 underlying36 underlying37 underlying38 underlying39 underlying40 underlying41 underlying42 underlying44 underlying45 underlying46 underlying47 underlying48 underlying49 underlying50 underlying51 underlying52 underlying53 underlying54 underlying55 underlying57 underlying58 underlying59 underlying60 underlying61 underlying62 underlying63 underlying64 underlying65 underlying66 underlying67 underlying68 underlying69 underlying70 underlying71 underlying72 underlying73 underlying74 underlying75 underlying76 underlying77 underlying79 underlying80 underlying81 underlying82 underlying83 underlying84 underlying85 underlying86 underlying87 underlying88 underlying89 underlying90 underlying91 underlying92 underlying93 underlying94 underlying95 underlying96 underlying97 underlying98 underlying99 underlying101 underlying102 underlying103 underlying104 underlying105 underlying106 underlying107 underlying108 underlying109 underlying110 underlying111 underlying112 underlying113 underlying114 underlying115 underlying116 underlying117 underlying118 underlying119 underlying120 underlying121 underlying122 underlying123 underlying124 underlying125 underlying126 underlying127 underlying128 underlying129 underlying130 underlying131 underlying132 underlying133 underlying134 underlying135 underlying136 underlying137 underlying138 underlying139 underlying140 underlying141 underlying142 underlying143 underlying144 underlying145 underlying146 underlying147 underlying148 underlying149 underlying150 underlying151 underlying152 underlying153 underlying154 underlying155 underlying156 underlying158 underlying160 underlying161 underlying162 underlying163 underlying164 underlying165 underlying166 underlying167 underlying168 underlying169 underlying170 underlying171 underlying172 underlying173 underlying174 underlying176 underlying177 underlying178 underlying179 underlying181 underlying182 underlying183 underlying184 underlying185 underlying186 underlying187 underlying188 underlying189 underlying190 underlying191 underlying192 underlying193 underlying194 underlying195 underlying196 underlying198 underlying200 underlying201 underlying202 underlying203 underlying204 underlying206 underlying207 underlying208 underlying210 underlying211 underlying212 underlying213 underlying214 underlying215 underlying216 underlying217 underlying218 underlying219 underlying220 underlying221 underlying223 underlying224 underlying225 underlying226 underlying228 underlying229 underlying230 underlying231 underlying233 underlying234 underlying235 underlying236 underlying237 underlying238 underlying239 underlying240 underlying241 underlying242 underlying243 underlying244 underlying245 underlying246 underlying247 underlying248 underlying249 underlying250 underlying252 underlying253 underlying254 underlying255 underlying256 underlying258 underlying259 underlying260 underlying261 underlying262 underlying263 underlying265 underlying266 underlying267 underlying268 underlying269 underlying270 underlying271 underlying272 underlying273 underlying274 underlying275 underlying276 underlying278 underlying279 underlying281 underlying282 underlying283 underlying284 underlying285 underlying286 underlying287 underlying288 underlying289 underlying290 underlying291 underlying292 underlying293
section
set_option maxRecDepth 10000
theorem Tryz.aU1:prog.eqGuardType prog.depth 23=false:=yp
theorem Tryz.aU2:EP prog 12 23=some [.i .i64,.i .i64]:=yp
theorem Tryz.aU3:fR prog 23=some true:=yp
@[simp] theorem Tryz.a8D{a0 b0:Int}{a1 b1:Int}:eO prog .eql 23 (.agg [.int .i64 a0,.int .i64 a1]) (.agg [.int .i64 b0,.int .i64 b1])=some (.bool (decide (a0=b0)&&(decide (a1=b1)&&true))):=aEB Tryz.aU1 Tryz.aU2 Tryz.aU3 rfl
theorem Tryz.aU4:prog.eqGuardType prog.depth 31=false:=yp
theorem Tryz.aU5:EP prog 12 31=some [.i .i64,.i .i64]:=yp
theorem Tryz.aU6:fR prog 31=some true:=yp
@[simp] theorem Tryz.a8E{a0 b0:Int}{a1 b1:Int}:eO prog .eql 31 (.agg [.int .i64 a0,.int .i64 a1]) (.agg [.int .i64 b0,.int .i64 b1])=some (.bool (decide (a0=b0)&&(decide (a1=b1)&&true))):=aEB Tryz.aU4 Tryz.aU5 Tryz.aU6 rfl
theorem Tryz.aU7:prog.eqGuardType prog.depth 131=false:=yp
theorem Tryz.aU8:EP prog 12 131=some [.i .i64,.i .i64]:=yp
theorem Tryz.aU9:fR prog 131=some true:=yp
@[simp] theorem Tryz.a8F{a0 b0:Int}{a1 b1:Int}:eO prog .eql 131 (.agg [.int .i64 a0,.int .i64 a1]) (.agg [.int .i64 b0,.int .i64 b1])=some (.bool (decide (a0=b0)&&(decide (a1=b1)&&true))):=aEB Tryz.aU7 Tryz.aU8 Tryz.aU9 rfl
end
theorem fol:prog.follows .mixedOrders=true:=yp
end Go.Kz
namespace Go.Kz
section
noncomputable section
section
variable{β:Type}
def cZ(n:Nat)(k:Nat->β):β:=match n with|0=>k 0|m+1=>k (m+1)
theorem RO(n:Nat)(k:Nat->β):cZ n k=k n:=by cases n<;>rfl
def aCs(z:Int)(k:Int->β):β:=match z with|.ofNat n=>cZ n λn=>k (.ofNat n)|.negSucc n=>cZ n λn=>k (.negSucc n)
theorem aLj(z:Int)(k:Int->β):aCs z k=k z:=by cases z<;>simp[aCs,RO]
def U6(b:UInt8)(k:UInt8->β):β:=cZ b.toNat λn=>k (UInt8.ofNat n)
theorem aLk(b:UInt8)(k:UInt8->β):U6 b k=k b:=by simp[U6,RO]
def lR{α:Type}(f:α->(α->β)->β)(l:List α):(List α->β)->β:=
 List.rec (motive:=λ_=>(List α->β)->β) (λk=>k []) (λx _ ih k=>f x λx'=>ih λxs'=>k (x'::xs')) l
theorem PF{α:Type}{f:α->(α->β)->β}(hf:∀x k,f x k=k x):∀(l:List α) (k:List α->β),lR f l k=k l
 | [],_=>rfl
 |x::xs,k=>by
  show f x (λx'=>lR f xs λxs'=>k (x'::xs'))=_
  rw[hf,PF hf xs]
def aCt(b:Bool)(k:Bool->β):β:=match b with|true=>k true|false=>k false
theorem aFE(b:Bool)(k:Bool->β):aCt b k=k b:=by cases b<;>rfl
def aFF(x:IntKind)(k:IntKind->β):β:=match x with
 |.i8=>k .i8|.i16=>k .i16|.i32=>k .i32|.i64=>k .i64|.u8=>k .u8|.u16=>k .u16|.u32=>k .u32|.u64=>k .u64
theorem aLl(x:IntKind)(k:IntKind->β):aFF x k=k x:=by cases x<;>rfl
def aCu(t:Tok)(k:Tok->β):β:=match t with
 |.any=>k .any|.full=>k .full|.nil=>k .nil|.vJ=>k .vJ|.vK=>k .vK|.own id=>cZ id λid=>k (.own id)
theorem aLm(t:Tok)(k:Tok->β):aCu t k=k t:=by cases t<;>simp[aCu,RO]
def E5:Nat->PD->(PD->β)->β
 |0,p,k=>k p
 |n+1,p,k=>match p with
  |.bool b=>aCt b λb=>k (.bool b)
  |.int x z=>aFF x λx=>aCs z λz=>k (.int x z)
  |.str l=>lR U6 l λl=>k (.str l)
  |.agg cs=>lR (E5 n) cs λcs=>k (.agg cs)
  |.slice s xs t=>cZ s λs=>lR (E5 n) xs λxs=>aCu t λt=>k (.slice s xs t)
  |.ptr id off=>cZ id λid=>cZ off λoff=>k (.ptr id off)
  |.cI cs off=>lR (E5 n) cs λcs=>cZ off λoff=>k (.cI cs off)
  |.cQ=>k .cQ
  |.func f cs=>cZ f λf=>lR (E5 n) cs λcs=>k (.func f cs)
  |.jS f cs=>cZ f λf=>lR (E5 n) cs λcs=>k (.jS f cs)
  |.yield id=>cZ id λid=>k (.yield id)
  |.iC=>k .iC
  |.bG v=>k (.bG v)
  |.typed t cs=>cZ t λt=>lR (E5 n) cs λcs=>k (.typed t cs)
  |.cL id off m sz=>cZ id λid=>cZ off λoff=>cZ m λm=>cZ sz λsz=>k (.cL id off m sz)
  |.eB id v off m sz=>cZ id λid=>cZ v λv=>cZ off λoff=>cZ m λm=>cZ sz λsz=>k (.eB id v off m sz)
  |.fD id v off=>cZ id λid=>cZ v λv=>cZ off λoff=>k (.fD id v off)
  |.fA id=>cZ id λid=>k (.fA id)
  |.iface t q=>cZ t λt=>E5 n q λq=>k (.iface t q)
  |.aI vs=>lR (E5 n) vs λvs=>k (.aI vs)
theorem aFG:∀(n:Nat) (p:PD) (k:PD->β),E5 n p k=k p
 |0,_,_=>rfl
 |n+1,p,k=>by
  have h:∀(l:List PD) (k:List PD->β),lR (E5 n) l k=k l:=PF (aFG n)
  have hb:∀(l:List UInt8) (k:List UInt8->β),lR U6 l k=k l:=PF aLk
  cases p<;>simp[E5,RO,aLj,aFE,aLl,aLm,h,hb,aFG n]
def PG{α:Type}(l:List α)(k:List α->β):β:=lR (λx k=>k x) l k
theorem aCv{α:Type}(l:List α)(k:List α->β):PG l k=k l:=PF (λ_ _=>rfl) l k
def aFH(p:PD)(k:PD->β):β:=match p with
 |.agg cs=>PG cs λcs=>k (.agg cs)
 |.typed t cs=>PG cs λcs=>k (.typed t cs)
 |p=>k p
theorem aUL(p:PD)(k:PD->β):aFH p k=k p:=by cases p<;>simp[aFH,aCv]
def ZY(o:U)(k:U->β):β:=match o with
 |.none=>k .none
 |.box p=>aFH p λp=>k (.box p)
 |.own e s n=>cZ e λe=>cZ s λs=>cZ n λn=>k (.own e s n)
 |.row e s v cs=>cZ e λe=>cZ s λs=>cZ v λv=>PG cs λcs=>k (.row e s v cs)
 |.map es=>PG es λes=>k (.map es)
 |.mark=>k .mark
 |.loop st fr ps a b=>PG fr λfr=>k (.loop st fr ps a b)
theorem aLn(o:U)(k:U->β):ZY o k=k o:=by cases o<;>simp[ZY,aUL,RO,aCv]
def HD(σ:List U)(k:List U->β):β:=lR ZY σ k
theorem U7(σ:List U)(k:List U->β):HD σ k=k σ:=PF aLn σ k
def ZZ(p:PD)(k:PD->β):β:=match p with
 |.bool b=>aCt b λb=>k (.bool b)
 |.int x z=>k (.int x z)
 |.str l=>k (.str l)
 |.agg cs=>k (.agg cs)
 |.slice s xs t=>k (.slice s xs t)
 |.ptr id off=>k (.ptr id off)
 |.cI cs off=>k (.cI cs off)
 |.cQ=>k .cQ
 |.func f cs=>k (.func f cs)
 |.jS f cs=>k (.jS f cs)
 |.yield id=>k (.yield id)
 |.iC=>k .iC
 |.bG v=>k (.bG v)
 |.typed t cs=>k (.typed t cs)
 |.cL id off m sz=>k (.cL id off m sz)
 |.eB id v off m sz=>k (.eB id v off m sz)
 |.fD id v off=>k (.fD id v off)
 |.fA id=>k (.fA id)
 |.iface t q=>k (.iface t q)
 |.aI vs=>k (.aI vs)
theorem aFI(p:PD)(k:PD->β):ZZ p k=k p:=by cases p<;>simp[ZZ,aFE]
def HE:Nat->PD->(PD->β)->β
 |0,p,k=>ZZ p k
 |n+1,p,k=>match p with
  |.bool b=>aCt b λb=>k (.bool b)
  |.int x z=>aFF x λx=>aCs z λz=>k (.int x z)
  |.str l=>lR U6 l λl=>k (.str l)
  |.agg cs=>lR (HE n) cs λcs=>k (.agg cs)
  |.slice s xs t=>cZ s λs=>lR (HE n) xs λxs=>aCu t λt=>k (.slice s xs t)
  |.ptr id off=>cZ id λid=>cZ off λoff=>k (.ptr id off)
  |.cI cs off=>PG cs λcs=>cZ off λoff=>k (.cI cs off)
  |.func f cs=>cZ f λf=>lR (HE n) cs λcs=>k (.func f cs)
  |.jS f cs=>cZ f λf=>lR (HE n) cs λcs=>k (.jS f cs)
  |.cL id off m sz=>cZ id λid=>cZ off λoff=>cZ m λm=>cZ sz λsz=>k (.cL id off m sz)
  |.eB id v off m sz=>cZ id λid=>cZ v λv=>cZ off λoff=>cZ m λm=>cZ sz λsz=>k (.eB id v off m sz)
  |.fD id v off=>cZ id λid=>cZ v λv=>cZ off λoff=>k (.fD id v off)
  |.fA id=>cZ id λid=>k (.fA id)
  |.iface t q=>cZ t λt=>HE n q λq=>k (.iface t q)
  |.aI vs=>lR (HE n) vs λvs=>k (.aI vs)
  |p=>k p
theorem aCw:∀(n:Nat) (p:PD) (k:PD->β),HE n p k=k p
 |0,p,k=>aFI p k
 |n+1,p,k=>by
  have h:∀(l:List PD) (k:List PD->β),lR (HE n) l k=k l:=PF (aCw n)
  have hb:∀(l:List UInt8) (k:List UInt8->β),lR U6 l k=k l:=PF aLk
  cases p<;>simp[HE,RO,aLj,aFE,aLl,aLm,h,hb,aCw n,aCv]
def PH(l:List U)(n:Nat):(List U->β)->β:=
 List.rec (motive:=λ_=>Nat->(List U->β)->β) (λ_ k=>k []) (λx r ih n k=>Nat.rec (motive:=λ_=>β) (ZY x λx=>k (x::r)) (λn _=>ih n λr=>k (x::r)) n) l n
theorem aLo:∀(l:List U) (n:Nat) (k:List U->β),PH l n k=k l
 | [],_,_=>rfl
 |x::r,0,k=>by
  show ZY x (λx=>k (x::r))=_
  rw[aLn]
 |x::r,n+1,k=>by
  show PH r n (λr=>k (x::r))=_
  rw[aLo r]
def handed(p:PD):Option Nat:=match p with
 |.ptr id _=>some id
 |.fD id _ _=>some id
 |.cL id _ _ _=>some id
 |.eB id _ _ _ _=>some id
 |.fA id=>some id
 |.slice _ _ (.own id)=>some id
 |_=>none
def aCx(fr:List PD)(σ:List U)(op:Op)(p:PD)(σ':List U)(k:List U->β):β:=match op with
 |.load _ _=>k σ'
 |.lookup _ _ _ _=>k σ'
 |.buildSlice _ _ _=>k σ'
 |.store _ x _=>(match aT fr x with|some a=>(match handed a with|some id=>PH σ' id k|none=>HD σ' k)|none=>HD σ' k)
 |.alloc _=>PH σ' σ.length k
 |.box _ _=>PH σ' σ.length k
 |.mapUpdate _ x _ _=>(match aT fr x with|some a=>(match handed a with|some id=>PH σ' id k|none=>HD σ' k)|none=>HD σ' k)
 |.makeMap _ _=>PH σ' σ.length k
 |.call { callee:=.builtin .append,.. }=>(match handed p with|some id=>PH σ' id k|none=>k σ')
 |_=>HD σ' k
theorem aLp(fr:List PD)(σ:List U)(op:Op)(p:PD)(σ':List U)(k:List U->β):aCx fr σ op p σ' k=k σ':=by
 unfold aCx;split<;>(try split)<;>(try split)<;>simp[aLo,U7]
def aFJ(l:List PD)(n:Nat)(p:PD):(List PD->β)->β:=
 List.rec (motive:=λ_=>Nat->(List PD->β)->β) (λ_ k=>k []) (λx r ih n k=>Nat.rec (motive:=λ_=>β) (k (p::r)) (λn _=>ih n λr=>k (x::r)) n) l n
theorem aLq:∀(l:List PD) (n:Nat) (p:PD) (k:List PD->β),aFJ l n p k=k (l.set n p)
 | [],_,_,_=>rfl
 |_::_,0,_,_=>rfl
 |x::r,n+1,p,k=>by
  show aFJ r n p (λr=>k (x::r))=_
  rw[aLq r];rfl
def E6(fr:List PD)(dst:Option Tmp)(p:PD)(k:List PD->β):β:=match dst with
 |some d=>aFJ fr d p k
 |none=>k fr
theorem U8(fr:List PD)(dst:Option Tmp)(p:PD)(k:List PD->β):E6 fr dst p k=k (aM fr dst p):=by cases dst<;>simp[E6,aM,aLq]
def Z0(r:Option (PD×List U))(k:PD->List U->β)(d:β):β:=match r with
 |some (p,σ)=>E5 30 p λp=>HD σ λσ=>k p σ
 |none=>d
theorem aUM(r:Option (PD×List U))(k:PD->List U->β)(d:β):Z0 r k d=match r with|some (p,σ)=>k p σ|none=>d:=by
 cases r with
 |none=>rfl
 |some x=>obtain⟨p,σ⟩:=x;simp[Z0,aFG,U7]
end
variable{P:Program}{E:aE}
def aUN:Op->Bool
 |.move _|.assign _|.pick _ _ _|.extract _ _|.load _ _=>true
 |_=>false
def U9{β:Type}(op:Op)(p:PD)(k:PD->β):β:=if aUN op then ZZ p k else HE 3 p k
theorem aCy{β:Type}(op:Op)(p:PD)(k:PD->β):U9 op p k=k p:=by unfold U9;split<;>simp[aFI,aCw]
def VA{β:Type}(P:Program)(call:b9)(fl:Nat)(fr:List PD)(σ:List U)(op:Op)(k:PD->List U->β)(d:β):β:=
 match dO fr op with
 |some (tg,args)=>lR ZZ args λargs=>(match call fl tg args σ with
  |some (p,σ)=>k p σ
  |none=>d)
 |none=>match dB P fr op with
  |some p=>U9 op p λp=>k p σ
  |none=>match cO P fl fr σ op with
   |some (p,σ')=>U9 op p λp=>aCx fr σ op p σ' λσ'=>k p σ'
   |none=>d
theorem aFK{β:Type}(call:b9)(fl:Nat)(fr:List PD)(σ:List U)(op:Op)(k:PD->List U->β)(d:β):VA P call fl fr σ op k d=match bK P call fl fr σ op with|some (p,σ)=>k p σ|none=>d:=by
 unfold VA bK;cases dO fr op with
 |some x=>obtain⟨tg,args⟩:=x;simp only[PF aFI]
 |none=>
  simp only[pop];cases dB P fr op with
  |some p=>simp[aCy]
  |none=>
   exact qk
def aCz(P:Program)(call:b9)(fl:Nat)(ops:Array Oper)(l:List Oper):List PD->List U->Option (List PD×List U):=
 List.rec (motive:=λ_=>List PD->List U->Option (List PD×List U)) (λfr σ=>some (fr,σ))
  (λo _ ih fr σ=>if Region.wanted o (bA ops fr)then VA P call fl fr σ o.op (λp σ'=>E6 fr o.dst p λfr=>ih fr σ') none
   else E6 fr o.dst (.aI []) λfr=>ih fr σ) l
theorem aFL(call:b9)(fl:Nat)(ops:Array Oper):∀(l:List Oper) (fr:List PD) (σ:List U),aCz P call fl ops l fr σ=dS P call fl ops l fr σ
 | [],_,_=>rfl
 |o::rest,fr,σ=>by
  show(if Region.wanted o (bA ops fr)then VA P call fl fr σ o.op (λp σ'=>E6 fr o.dst p λfr=>aCz P call fl ops rest fr σ') none
   else E6 fr o.dst (.aI []) λfr=>aCz P call fl ops rest fr σ)=_
  unfold dS;split
  .rw[aFK];cases bK P call fl fr σ o.op with
   |none=>rfl
   |some x=>obtain⟨p,σ'⟩:=x;simp only[U8,aFL call fl ops rest]
  .simp only[U8,aFL call fl ops rest]
def Z1(P:Program)(call:b9)(fl:Nat)(ops:Array Oper)(fr:List PD)(σ:List U):Option (List PD×List U):=
 match aCz P call fl ops ops.toList fr σ with
 |some x=>some x
 |none=>UT P call fl ops ops.toList fr σ
theorem aUO(call:b9)(fl:Nat)(ops:Array Oper)(fr:List PD)(σ:List U):Z1 P call fl ops fr σ=OW P call fl ops fr σ:=by
 unfold Z1 OW;rw[aFL];rfl
def Z2{β:Type}(P:Program)(call:b9)(fl:Nat)(free:Bool)(i:Nat)(fr:List PD)(σ:List U)(op:Op)(k:PD->List U->β)(d:β):β:=
 if dF op then(match dB P fr op with|some p=>U9 op p λp=>k p σ|none=>d)
 else if bT op then cZ i λi=>k (.ptr i 0) σ
 else if cR op&&!free then VA P call (max fl σ.length) fr σ op (λp σ'=>HD (σ++σ'.drop σ.length) λσ'=>k p σ') d
 else if cR op then VA P call fl fr σ op k d
 else match cO P fl fr σ op with
  |some (p,σ')=>U9 op p λp=>aCx fr σ op p σ' λσ'=>k p σ'
  |none=>d
theorem aLr{β:Type}(call:b9)(fl:Nat)(free:Bool)(i:Nat)(fr:List PD)(σ:List U)(op:Op)(k:PD->List U->β)(d:β):Z2 P call fl free i fr σ op k d=match eF P call fl free i fr σ op with|some (p,σ)=>k p σ|none=>d:=by
 unfold Z2 eF;split
 .cases dB P fr op<;>simp[aCy]
 .split
  .simp[RO]
  .split
   .rw[aFK];cases bK P call (max fl σ.length) fr σ op with
    |none=>rfl
    |some x=>obtain⟨p,σ'⟩:=x;simp[U7]
   .split
    .rw[aFK]
    .exact qk
def VB(P:Program)(call:b9)(fl:Nat)(ops:Array Oper)(ms:List Nat):Nat->Nat->List Oper->List PD->List U->List (Option Nat)->Option (List (Option Nat)×Dq×List U)
 |_,_,[],fr,σ,ft=>some (ft.reverse,fr,σ)
 |i,k,o::rest,fr,σ,ft=>
  if Region.wanted o (bA ops fr)then
   Z2 P call fl (gH ops.toList ms i) k fr σ o.op (λp σ'=>E6 fr o.dst p λfr'=>VB P call fl ops ms (i+1) (if bT o.op then k+1 else k) rest fr' σ' (nL fr o.op::ft)) none
  else E6 fr o.dst (.aI []) λfr'=>VB P call fl ops ms (i+1) (if bT o.op then k+1 else k) rest fr' σ (none::ft)
theorem aFM(call:b9)(fl:Nat)(ops:Array Oper)(ms:List Nat):∀(l:List Oper) (i k:Nat) (fr:List PD) (σ:List U) (ft:List (Option Nat)),
  VB P call fl ops ms i k l fr σ ft=match eM P call fl ops ms i k l fr σ with|some (tr,fr',σ')=>some (ft.reverse++tr.map TE.iQ,fr',σ')|none=>none
 | [],i,k,fr,σ,ft=>by simp[VB,eM]
 |o::rest,i,k,fr,σ,ft=>by
  unfold VB eM;simp only;split
  .rw[aLr];cases eF P call fl (gH ops.toList ms i) k fr σ o.op with
   |none=>rfl
   |some x=>
    obtain⟨p,σ'⟩:=x;simp only[U8,aFM call fl ops ms rest];cases eM P call fl ops ms (i+1) (if bT o.op=true then k+1 else k) rest (aM fr o.dst p) σ' with
    |none=>rfl
    |some y=>obtain⟨tr,fr',qV⟩:=y;simp
  .simp only[U8,aFM call fl ops ms rest];cases eM P call fl ops ms (i+1) (if bT o.op=true then k+1 else k) rest (aM fr o.dst (.aI [])) σ with
   |none=>rfl
   |some y=>obtain⟨tr,fr',qV⟩:=y;simp
def aFN(ops:List Oper)(ms:List Nat)(ft:List (Option Nat)):Bool:=
 (List.range ops.length).all λk=>!eL eU ops k||(List.range ops.length).all λi=>!eL dE ops i||!loose ms i k ||
  match (ft[i]?).bind id,(ft[k]?).bind id with
  |some a,some b=>a != b
  |_,_=>true
theorem aUP(ops:List Oper)(ms:List Nat)(tr:List TE):aFN ops ms (tr.map TE.iQ)=qP ops ms tr:=by
 have h:∀i,((tr.map TE.iQ)[i]?).bind id=(tr[i]?).bind TE.iQ:=λi=>by
  rw[yAo];cases tr[i]?<;>rfl
 unfold aFN qP;simp only[h];rfl
def aFO(ops:Array Oper):List (Oper×Bool):=ops.toList.zipIdx.map λx=>(x.1,gH ops.toList (bU ops.toList []) x.2)
def calm(ops:Array Oper):Bool:=EM ops (bU ops.toList [])&&(List.range ops.toList.length).all λk=>!eL eU ops.toList k||(List.range ops.toList.length).all λi=>!eL dE ops.toList i||!loose (bU ops.toList []) i k
def RP(P:Program)(call:b9)(fl:Nat)(ops:Array Oper)(l:List (Oper×Bool)):Nat->List PD->List U->Option (List PD×List U):=
 List.rec (motive:=λ_=>Nat->List PD->List U->Option (List PD×List U)) (λ_ fr σ=>some (fr,σ))
  (λo _ ih k fr σ=>if Region.wanted o.1 (bA ops fr)then Z2 P call fl o.2 k fr σ o.1.op (λp σ'=>E6 fr o.1.dst p λfr'=>ih (if bT o.1.op then k+1 else k) fr' σ') none
   else E6 fr o.1.dst (.aI []) λfr'=>ih (if bT o.1.op then k+1 else k) fr' σ) l
theorem aFP(call:b9)(fl:Nat)(ops:Array Oper)(ms:List Nat):∀(l:List Oper) (i k:Nat) (fr:List PD) (σ:List U),
  RP P call fl ops ((l.zipIdx i).map λx=>(x.1,gH ops.toList ms x.2)) k fr σ=match eM P call fl ops ms i k l fr σ with|some (_,fr',σ')=>some (fr',σ')|none=>none
 | [],i,k,fr,σ=>rfl
 |o::rest,i,k,fr,σ=>by
  show(if Region.wanted o (bA ops fr)then Z2 P call fl (gH ops.toList ms i) k fr σ o.op (λp σ'=>E6 fr o.dst p λfr'=>RP P call fl ops ((rest.zipIdx (i+1)).map λx=>(x.1,gH ops.toList ms x.2)) (if bT o.op then k+1 else k) fr' σ') none
   else E6 fr o.dst (.aI []) λfr'=>RP P call fl ops ((rest.zipIdx (i+1)).map λx=>(x.1,gH ops.toList ms x.2)) (if bT o.op then k+1 else k) fr' σ)=_
  unfold eM;simp only;split
  .rw[aLr];cases eF P call fl (gH ops.toList ms i) k fr σ o.op with
   |none=>rfl
   |some x=>
    obtain⟨p,σ'⟩:=x;simp only[U8,aFP call fl ops ms rest];cases eM P call fl ops ms (i+1) (if bT o.op=true then k+1 else k) rest (aM fr o.dst p) σ' with
    |none=>rfl
    |some y=>rfl
  .simp only[U8,aFP call fl ops ms rest];cases eM P call fl ops ms (i+1) (if bT o.op=true then k+1 else k) rest (aM fr o.dst (.aI [])) σ with
   |none=>rfl
   |some y=>rfl
theorem aUQ{ops:Du}(h:calm ops=true)(tr:List TE):EM ops (bU ops.toList [])=true/\qP ops.toList (bU ops.toList []) tr=true:=by
 simp only[calm,yAr]at h;refine⟨h.1,?_⟩;have h2:=h.2;simp only[qP,yAn,yAY,yBi]at h2 ⊢;intro k hk;rcases h2 k hk with h3|h3
 .exact .inl h3
 .refine .inr λi hi=>.inl ?_
  rcases h3 i hi with h4|h4
  .exact .inl h4
  .exact .inr h4
def Z3(P:Program)(call:b9)(fl:Nat)(ops:Array Oper)(fr:List PD)(σ:List U):Option (List PD×List U):=
 if calm ops then
  match j6 P ops.toList with
  |some []=>(match RP P call fl ops (aFO ops) σ.length fr σ with
   |some x=>some x
   |none=>iO P call fl ops fr σ)
  |some (h::hs)=>HD (σ++h::hs) λσ1=>(match RP P call fl ops (aFO ops) σ.length fr σ1 with
   |some x=>some x
   |none=>iO P call fl ops fr σ)
  |none=>iO P call fl ops fr σ
 else if EM ops (bU ops.toList [])then
  match j6 P ops.toList with
  |some hs=>HD (σ++hs) λσ1=>(match VB P call fl ops (bU ops.toList []) 0 σ.length ops.toList fr σ1 []with
   |some (ft,fr',σ')=>if aFN ops.toList (bU ops.toList []) ft then some (fr',σ')else iO P call fl ops fr σ
   |none=>iO P call fl ops fr σ)
  |none=>iO P call fl ops fr σ
 else iO P call fl ops fr σ
theorem aLs(call:b9)(fl:Nat)(ops:Array Oper)(fr:List PD)(σ hs:List U)(hc:calm ops=true)(hh:j6 P ops.toList=some hs) :
  (match RP P call fl ops (aFO ops) σ.length fr (σ++hs)with
   |some x=>some x
   |none=>iO P call fl ops fr σ)=iO P call fl ops fr σ:=by
 have he:=aFP (P:=P) call fl ops (bU ops.toList []) ops.toList 0 σ.length fr (σ++hs);show(match RP P call fl ops (ops.toList.zipIdx.map λx=>(x.1,gH ops.toList (bU ops.toList []) x.2)) σ.length fr (σ++hs)with|some x=>some x|none=>_)=_
 rw[he];cases hd:eM P call fl ops (bU ops.toList []) 0 σ.length ops.toList fr (σ++hs)with
 |none=>rfl
 |some y=>
  obtain⟨tr,fr',σ'⟩:=y;obtain⟨hr,hf⟩:=aUQ hc tr;exact mj
theorem aUR(call:b9)(fl:Nat)(ops:Array Oper)(fr:List PD)(σ:List U):Z3 P call fl ops fr σ=iO P call fl ops fr σ:=by
 unfold Z3;split
 .rename_i hc;split
  .rename_i hh;have:=aLs (P:=P) call fl ops fr σ [] hc hh;rw[yAl]at this;exact this
  .rename_i h hs hh;rw[U7];exact aLs call fl ops fr σ (h::hs) hc hh
  .rfl
 .split
  .rename_i hr;split
   .rename_i hs hh;rw[U7,aFM];cases hd:eM P call fl ops (bU ops.toList []) 0 σ.length ops.toList fr (σ++hs)with
    |none=>rfl
    |some y=>
     obtain⟨tr,fr',σ'⟩:=y;simp only[List.reverse_nil,yAQ,aUP];split
     .rename_i hf;exact mj
     .rfl
   .rfl
  .rfl
def aFQ(P:Program)(code:xY)(fl:Nat)(f:FuncId)(args:List PD)(σ:List U):Option (PD×List U):=
 match P.funcs[f]? with
 |some fn=>match fn.body with
  |some c=>PG (args++List.replicate (fn.ntmps-args.length) (.aI [])) λfr=>(match code none c fl fr [] σ with
   |some r=>(match sX P fl fn r with
    |some (p,σ)=>HE 1 p λp=>(match r.ms with
     | []=>some (p,σ)
     |_=>HD σ λσ=>some (p,σ))
    |none=>none)
   |none=>none)
  |none=>none
 |none=>none
theorem aUS(code:xY)(fl:Nat)(f:FuncId)(args:List PD)(σ:List U):aFQ P code fl f args σ=UI P code fl f args σ:=by
 unfold aFQ UI;cases P.funcs[f]? with
 |none=>rfl
 |some fn=>
  simp only;cases fn.body with
  |none=>rfl
  |some c=>
   simp only[aCv];cases code none c fl (args++List.replicate (fn.ntmps-args.length) (.aI [])) [] σ with
   |none=>rfl
   |some r=>
    simp only;cases sX P fl fn r with
    |none=>rfl
    |some x=>
     obtain⟨p,σ⟩:=x;simp only[aCw];split<;>simp[U7]
def HF(P:Program)(E:aE)(code:xY):b9
 |fl,.inl f,args,σ=>match E f with
  |some g=>Z0 (g fl args σ) (λp σ=>some (p,σ)) none
  |none=>aFQ P code fl f args σ
 |fl,.inr id,args,σ=>Z0 (UP code fl id args σ) (λp σ=>some (p,σ)) none
theorem aLt(code:xY):HF P E code=oI P E code:=by
 have h:∀r:Option (PD×List U),Z0 r (λp σ=>some (p,σ)) none=r:=λr=>by
  rw[aUM];cases r with
  |none=>rfl
  |some x=>rfl
 funext fl tg args σ
 cases tg with
 |inl f=>
  simp only[HF,oI];cases E.ret f with
  |none=>exact aUS code fl f args σ
  |some g=>exact h _
 |inr id=>exact h (UP code fl id args σ)
def vN(P:Program)(E:aE)(n:Nat):xY:=
 Nat.rec (motive:=λ_=>xY) (λ_ _ _ _ _ _=>none) (λ_ self rd c fl fr ms σ=>
  match c with
  |.skip=>some ⟨.normal,fr,ms,σ⟩
  |.region _ ops false=>match Z1 P (HF P E self) fl ops fr σ with
    |some (fr',σ')=>some ⟨.normal,fr',ms,σ'⟩
    |none=>match EV P E (HF P E self) fl ops ops.toList fr σ with
     |some (v,fr',σ')=>some ⟨.panic v,fr',ms,σ'⟩
     |none=>none
  |.region _ ops true=>match Z3 P (HF P E self) fl ops fr σ with
    |some (fr',σ')=>some ⟨.normal,fr',ms,σ'⟩
    |none=>match M0 P E fl ops fr σ with
     |some (v,τ)=>some ⟨.panic v,fr,ms,τ⟩
     |none=>none
  |.seq x y=>match self rd x fl fr ms σ with
    |some ⟨.normal,fr',ms',σ'⟩=>self rd y fl fr' ms' σ'
    |r=>r
  |.cond g x y=>match aT fr g with
    |some (.bool true)=>self rd x fl fr ms σ
    |some (.bool false)=>self rd y fl fr ms σ
    |_=>none
  |.block id b=>match self rd b fl fr ms σ with
    |some ⟨.exit k,fr',ms',σ'⟩=>some ⟨if k=id then .normal else .exit k,fr',ms',σ'⟩
    |r=>r
  |.loop b=>match self rd b fl fr ms σ with
    |some ⟨.normal,fr',ms',σ'⟩=>self rd (.loop b) fl fr' ms' σ'
    |r=>r
  |.rangeFunc g ps assign body=>match aT fr g with
    |some (.func gf cap)=>YY (HF P E self) rd gf cap ps.toList assign body fl fr ms σ
    |_=>none
  |.exit id=>some ⟨.exit id,fr,ms,σ⟩
  |.ret=>some ⟨.ret,fr,ms,σ⟩
  |_=>none) n
theorem aUT(n:Nat):vN P E (n+1)=λrd c fl fr ms σ=>
  match c with
  |.skip=>some ⟨.normal,fr,ms,σ⟩
  |.region _ ops false=>match Z1 P (HF P E (vN P E n)) fl ops fr σ with
    |some (fr',σ')=>some ⟨.normal,fr',ms,σ'⟩
    |none=>match EV P E (HF P E (vN P E n)) fl ops ops.toList fr σ with
     |some (v,fr',σ')=>some ⟨.panic v,fr',ms,σ'⟩
     |none=>none
  |.region _ ops true=>match Z3 P (HF P E (vN P E n)) fl ops fr σ with
    |some (fr',σ')=>some ⟨.normal,fr',ms,σ'⟩
    |none=>match M0 P E fl ops fr σ with
     |some (v,τ)=>some ⟨.panic v,fr,ms,τ⟩
     |none=>none
  |.seq x y=>match vN P E n rd x fl fr ms σ with
    |some ⟨.normal,fr',ms',σ'⟩=>vN P E n rd y fl fr' ms' σ'
    |r=>r
  |.cond g x y=>match aT fr g with
    |some (.bool true)=>vN P E n rd x fl fr ms σ
    |some (.bool false)=>vN P E n rd y fl fr ms σ
    |_=>none
  |.block id b=>match vN P E n rd b fl fr ms σ with
    |some ⟨.exit k,fr',ms',σ'⟩=>some ⟨if k=id then .normal else .exit k,fr',ms',σ'⟩
    |r=>r
  |.loop b=>match vN P E n rd b fl fr ms σ with
    |some ⟨.normal,fr',ms',σ'⟩=>vN P E n rd (.loop b) fl fr' ms' σ'
    |r=>r
  |.rangeFunc g ps assign body=>match aT fr g with
    |some (.func gf cap)=>YY (HF P E (vN P E n)) rd gf cap ps.toList assign body fl fr ms σ
    |_=>none
  |.exit id=>some ⟨.exit id,fr,ms,σ⟩
  |.ret=>some ⟨.ret,fr,ms,σ⟩
  |_=>none:=rfl
theorem aLu:∀n,vN P E n=gP P E n
 |0=>rfl
 |n+1=>by
  funext rd c fl fr ms σ
  have h1:∀call fl ops fr σ,Z1 P call fl ops fr σ=OW P call fl ops fr σ:=aUO;have h2:∀call fl ops fr σ,Z3 P call fl ops fr σ=iO P call fl ops fr σ:=aUR;rw[aUT];unfold gP;rw[aLu n,aLt];simp only[h1,h2];cases c with
  |region id ops d=>cases d<;>rfl
  |_=>rfl
def aFC(P:Program)(E:aE)(n:Nat):b9:=HF P E (vN P E n)
theorem aUK(n:Nat):aFC P E n=cD P E n:=by
 unfold aFC cD;rw[aLu,aLt]
end
end
def yH{α:Type}(f:α->α->Bool):List α->List α->Bool
 | [],[]=>true
 |x::xs,y::ys=>f x y&&yH f xs ys
 |_,_=>false
theorem aFA{α:Type}{f:α->α->Bool}(hf:∀x y,f x y=true->x=y):∀xs ys:List α,yH f xs ys=true->xs=ys
 | [],[],_=>rfl
 |x::xs,y::ys,h=>by
  simp only[yH,yAr]at h;rw[hf x y h.1,aFA hf xs ys h.2]
 | [],_::_,h=>by simp[yH]at h
 |_::_,[],h=>by simp[yH]at h
def aFB:Tok->Tok->Bool
 |.any,.any=>true
 |.full,.full=>true
 |.nil,.nil=>true
 |.vJ,.vJ=>true
 |.vK,.vK=>true
 |.own a,.own b=>a==b
 |_,_=>false
theorem aUJ(a b:Tok)(h:aFB a b=true):a=b:=by
 cases a<;>cases b<;>simp[aFB]at h<;>first|rfl|(rw[h])
def vM:Nat->PD->PD->Bool
 |0,_,_=>false
 |n+1,p,q=>match p,q with
  |.bool a,.bool b=>a==b
  |.int j a,.int k b=>(j==k)&&(a==b)
  |.str a,.str b=>a==b
  |.agg a,.agg b=>yH (vM n) a b
  |.slice s a t,.slice s' b t'=>(s==s')&&(aFB t t'&&yH (vM n) a b)
  |.ptr i o,.ptr i' o'=>(i==i')&&(o==o')
  |.cQ,.cQ=>true
  |.func f a,.func g b=>(f==g)&&yH (vM n) a b
  |.jS f a,.jS g b=>(f==g)&&yH (vM n) a b
  |.iC,.iC=>true
  |.typed t a,.typed u b=>(t==u)&&yH (vM n) a b
  |.cL i o m s,.cL i' o' m' s'=>(i==i')&&((o==o')&&((m==m')&&(s==s')))
  |.eB i v o m s,.eB i' v' o' m' s'=>(i==i')&&((v==v')&&((o==o')&&((m==m')&&(s==s'))))
  |.fD i v o,.fD i' v' o'=>(i==i')&&((v==v')&&(o==o'))
  |.fA i,.fA i'=>i==i'
  |.iface t a,.iface u b=>(t==u)&&vM n a b
  |.aI a,.aI b=>yH (vM n) a b
  |.bG .nilIface,.bG .nilIface=>true
  |.bG (.map none),.bG (.map none)=>true
  |_,_=>false
theorem ZX:∀(n:Nat) (p q:PD),vM n p q=true->p=q
 |0,_,_,h=>by simp[vM]at h
 |n+1,p,q,h=>by
  have hl:∀a b:List PD,yH (vM n) a b=true->a=b:=aFA (ZX n);unfold vM at h;split at h
  all_goals first
   |rfl
   |(cases h;done)
   |((try simp only[yAr,yBI]at h)
     first
      |(rw[h])
      |(obtain⟨rfl,rfl⟩:=h;rfl)
      |(rw[hl _ _ h])
      |(obtain⟨rfl,h2,h3⟩:=h;rw[hl _ _ h3,aUJ _ _ h2])
      |(obtain⟨rfl,h2⟩:=h;rw[hl _ _ h2])
      |(obtain⟨rfl,rfl,rfl,rfl⟩:=h;rfl)
      |(obtain⟨rfl,rfl,rfl,rfl,rfl⟩:=h;rfl)
      |(obtain⟨rfl,rfl,rfl⟩:=h;rfl)
      |(obtain⟨rfl,h2⟩:=h;rw[ZX n _ _ h2]))
structure a8C where
 a:Dq
 s:Dp
 p:PD
 s':Dp
def E4:List (List PD×PD)->List PD->Option PD
 | [],_=>none
 |r::rs,args=>if yH (vM 40) (args.map PD.strip) r.1=true then some r.2 else E4 rs args
theorem aLh:∀ {rs:List (List PD×PD)} {args:Dq} {p:PD},E4 rs args=some p->∃r∈rs,args.map PD.strip=r.1/\p=r.2
 | [],_,_,h=>zk
 |r::rs,args,p,h=>by
  unfold E4 at h;split at h
  .rename_i hc;simp only[yAb]at h;exact⟨r,yo,aFA (ZX 40) _ _ hc,h.symm⟩
  .obtain⟨r',hr,h'⟩:=aLh h;exact⟨r',by simp[hr],h'⟩
def gV(P:Program)(E:aE)(N:Nat)(f:FuncId)(r:Dq×PD):Bool:=
 PD.eV r.1&&(match aFC P E N 0 (.inl f) r.1 []with
  |some (p1,σ1)=>(dP σ1 20 p1).bW&&vM 40 (dP σ1 20 p1).strip r.2
  |none=>false)
theorem aF.aFD{P:Program}{E:aE}(hE:aF P E)(hP:P.follows .mixedOrders=true){f:FuncId}{N:Nat}(rs:List (List PD×PD))(h:(rs.all (gV P E N f))=true) :
  aF P (E.add f (λ_ args σ=>match E4 rs args with|some p=>some (p,σ)|none=>none)):=by
 refine hE.aLi hP λargs p hg=>?_
 obtain⟨r,hr,ha,rfl⟩:=aLh hg;have hx:=yAn.1 h r hr;simp only[gV,yAr]at hx;obtain⟨h1,h2⟩:=hx;split at h2
 .rename_i p1 σ1 hrun;simp only[yAr]at h2;rw[aUK]at hrun;exact⟨N,20,p1,σ1,by rw[ha];exact hrun,ZX 40 _ _ h2.2,h2.1,by rw[ha];exact h1⟩
 .cases h2
theorem aF.pick{P:Program}{E E0:aE}(hE:aF P E)(h0:aF P E0){f:FuncId}{g}(h:E f=some g):aF P (E0.add f g):=by
 refine⟨fun {F fl f' g' args c vs p σ'} hF hg hgo hs hX hv=>?_,h0.bD⟩;rw[aE.o3]at hg;split at hg
 .rename_i e;subst e;simp only[yAb]at hg;subst hg;exact hE.ret hF h hgo hs hX hv
 .exact h0.ret hF hg hgo hs hX hv
section
open Go
def TN(ops:Array Oper):Bool:=vC ops.toList [] λms=>
 (List.range ops.size).all λk=>!eL eU ops.toList k||(List.range ops.size).all λi=>!eL dE ops.toList i||!loose ms i k
def X9(f:Nat)(ops:Array Oper):Bool:=vC ops.toList [] λms=>
 (List.range ops.size).any λk=>aHV (aHW f) ops.toList k&&!gH ops.toList ms k&&(List.range k).all λj=>!eL cR ops.toList j&&!eL eU ops.toList j
section
variable{P:Program}{E:aE}{fl:Nat}{ops:Du}
theorem aIX{n f:Nat}{g:Dj}(hE:E f=some g)(hg:∀fl args σ,0<fl->g fl args σ=none){ms:List Nat}(hsh:∀o∈ops.toList,(dF o.op||dE o.op||bT o.op||jO o.op||dJ o.op)=true) :
  ∀(d i k:Nat) (l:List Oper) (fr:List PD) (σ:List U) (o:Oper),ops.toList.drop i=l->σ≠[]->l[d]?=some o->aHW f o=true->gH ops.toList ms (i+d)=false->(∀j o',j<d->l[j]?=some o'->cR o'.op=false/\eU o'.op=false) ->
   eM P (cD P E n) fl ops ms i k l fr σ=none
 |0,i,k,l,fr,σ,o,hl,oJ,ho,hc,hn,_=>by
  cases l with
  |nil=>simp at ho
  |cons o' l=>
   simp only[yBD,yAb]at ho;subst ho;rw[yCc]at hn;simp only[aHW,yAr]at hc;obtain⟨hgd,hc⟩:=hc;obtain⟨dst,op,ty,pos,edges,guard⟩:=o';simp only at hc hgd;split at hc
   .rename_i g' args ts hop;simp only[yBC]at hc;subst hc;have hgn:guard=none:=by cases guard<;>simp_all
    subst hgn;have hp:bK P (cD P E n) (max fl σ.length) fr σ (.call { callee:=.value (.func g'),args:=args,argTypes:=ts })=none:=by
     have hpos:0<max fl σ.length:=by
      have:0<σ.length:=yBE.2 oJ;omega
     unfold bK;cases ha:jQ fr args.toList with
     |none=>
      have:dO fr (.call { callee:=.value (.func g'),args:=args,argTypes:=ts })=none:=by simp[dO,aT,ha]
      rw[this];simp[pop,dB,cO]
     |some ps=>
      have:dO fr (.call { callee:=.value (.func g'),args:=args,argTypes:=ts })=some (.inl g',ps++[]):=by simp[dO,aT,ha]
      rw[this];simp only[cD,oI,hE,hg _ _ _ hpos]
    simp only[eM,Region.wanted,yAM,hn];unfold eF;simp only[dF,bT,cR,yAx,yAO,yBW,yCb,yAM,hp]
   .cases hc
 |d+1,i,k,l,fr,σ,o,hl,oJ,ho,hc,hn,hm=>by
  cases l with
  |nil=>simp at ho
  |cons o' l=>
   have hmem:o'∈ops.toList:=by
    have:o'∈ops.toList.drop i:=by rw[hl];simp
    exact yBJ this
   have hs1:=hsh o' hmem;obtain⟨hm0,hs2⟩:=hm 0 o' ym yo;have hl':ops.toList.drop (i+1)=l:=by rw[<-yBq,hl];rfl
   have hrec:=λk fr=>aIX (n:=n) hE hg hsh d (i+1) k l fr σ o hl' oJ Aq hc (by rw[show i+1+d=i+(d+1) by omega];exact hn) (λj o'' hj h=>hm (j+1) o'' ym zw)
   simp only[eM];split
   .split
    .rename_i p σ1 hp;obtain rfl:=aKa hs1 (by unfold dJ;rw[hs2,hm0];rfl) hp;rw[hrec]
    .rfl
   .rw[hrec]
def cG.X7(fr:List PD):List (Nat×Nat)->Prop
 | []=>True
 |x::l=>(∃p,lk fr x.1=some p/\j7 p=some x.2)/\cG.X7 fr l
theorem cG.aEc{fr:Dq}:∀(l:List (Nat×Nat)),cG.X7 fr l->(cG.of l).ok fr
 | [],_=>λ_ _ _ h=>zk
 |x::l,⟨⟨p,h1,h3⟩,h2⟩=>λt id id' h h'=>by
  unfold cG.of at h
  by_cases e:x.1=t
  .rw[yAJ e]at h;simp only[yAb]at h;rw[aBM,e]at h1;rw[yAA,h1]at h';simp only[yCa,h3,yAb]at h';rw[<-h',h]
  .rw[yAI e]at h;exact cG.aEc l h2 t id id' h h'
end
end
section
open Go.RowKit
set_option linter.unusedSectionVars false
def Tok.sh(n:Nat):Tok->Tok
 |.own id=>.own (id+n)
 |t=>t
mutual
def PD.sh(n:Nat):PD->PD
 |.bool b=>.bool b
 |.int k z=>.int k z
 |.str s=>.str s
 |.agg cs=>.agg (PD.MF n cs)
 |.slice sz xs t=>.slice sz (PD.MF n xs) (t.sh n)
 |.ptr id off=>.ptr (id+n) off
 |.cI cs off=>.cI (PD.MF n cs) off
 |.cQ=>.cQ
 |.func f cap=>.func f (PD.MF n cap)
 |.jS f xs=>.jS f (PD.MF n xs)
 |.yield id=>.yield (id+n)
 |.iC=>.iC
 |.bG v=>.bG v
 |.typed t cs=>.typed t (PD.MF n cs)
 |.cL id off m sz=>.cL (id+n) off m sz
 |.eB id ver off m sz=>.eB (id+n) ver off m sz
 |.fD id ver off=>.fD (id+n) ver off
 |.fA id=>.fA (id+n)
 |.iface t p=>.iface t (PD.sh n p)
 |.aI vs=>.aI (PD.MF n vs)
def PD.MF(n:Nat):List PD->Dq
 | []=>[]
 |x::xs=>PD.sh n x::PD.MF n xs
end
def U.sh(n:Nat):U->U
 |.none=>.none
 |.box p=>.box (p.sh n)
 |.own e s m=>.own e s m
 |.row e s v cs=>.row e s v (PD.MF n cs)
 |.map es=>.map (es.map λx=>(x.1.sh n,x.2.sh n))
 |.mark=>.mark
 |.loop st fr ps asg bd=>.loop st (PD.MF n fr) ps asg bd
structure Shv (n:Nat) (c1 c2:Cx):Prop where
 cell:∀a v,c1.av a->c1.w.cell? a=some v->c2.av a/\c2.w.cell? a=some v
 aZ:∀id,c1.D id->c2.D (id+n)
 rho:∀id,c1.D id->c2.ρ (id+n)=c1.ρ id
 obj:∀id,c2.σ[id+n]?=(c1.σ[id]?).map (U.sh n)
section
variable{c c1:Cx}
variable(hs:Sr c)(hs1:Sr c1)(nx:Nx 0 c.bare c1)
include hs nx
include hs1
end
end
def VF(g1 g2:Nat->List PD->List U->Option (PD×List U)):Nat->List PD->List U->Option (PD×List U):=λfl args σ=>match g1 fl args σ with
 |some x=>some x
 |none=>g2 fl args σ
theorem aF.aYm{P:Program}{E:aE}{f:FuncId}{g1 g2}(h1:aF P (E.add f g1))(h2:aF P (E.add f g2)):aF P (E.add f (VF g1 g2)):=by
 refine⟨fun {F fl f' g' args c vs p σ'} hF hg hgo hs hX hv=>?_,h1.bD⟩
 by_cases e:f'=f
 .have e0:∀g,(E.add f g) f'=some g:=λg=>by rw[aE.o3,yAJ e]
  rw[e0]at hg;simp only[yAb]at hg;subst hg;unfold VF at hgo;split at hgo
  .rename_i x hx;simp only[yAb]at hgo;subst hgo;exact h1.ret hF (e0 g1) hx hs hX hv
  .exact h2.ret hF (e0 g2) hgo hs hX hv
 .have e0:∀g g',(E.add f g) f'=(E.add f g') f':=λg g'=>by rw[aE.o3,aE.o3,yAI e,yAI e]
  rw[e0 _ g1]at hg;exact h1.ret hF hg hgo hs hX hv
def aEg(g:Nat->List PD->List U->Option (PD×List U)):Prop:=∀fl args σ p σ',g fl args σ=some (p,σ')->σ'≠[]
section
open Go Go.RowKit
theorem aLA{P:Program}{w:World}{nm:String}{d:DataW Unit}:∀ {laid:List (String×DataW Unit)} {ps:List MemPlace},DataW.LaidVars P w laid ps->(nm,d)∈laid ->
  ∃g t cs fuel p,P.globalNamed nm=some g/\(P.globals[g]?).map (·.type)=some t/\w.var? P nm=some cs/\DataW.trod (λ_=>()) P w 0 (λ_=>true) false fuel t cs.toList=some (d,p)
 | [],_,_,hm=>by cases hm
 |(n,d')::r,ps,h,hm=>by
  obtain⟨g,t,cs,fuel,p,q,h1,h2,h3,h4,h5,_⟩:=h;rcases yAS.1 hm with e|hm
  .simp only[yAc]at e;obtain⟨rfl,rfl⟩:=e;exact⟨g,t,cs,fuel,p,h1,h2,h3,h4⟩
  .exact aLA h5 hm
theorem aEp{P:Program}{w:World}{laid:List (String×DataW Unit)}{ps:List MemPlace}{nm:String}{k:IntKind}{xs:List Int}{g n:Nat}{t e:TypeId}(h:DataW.LaidVars P w laid ps)
  (hm:(nm,(.agg (xs.map λx=>.lit (.int k x)):DataW Unit))∈laid)
  (hg:P.globalNamed nm=some g) (ht:(P.globals[g]?).map (·.type)=some t) (hu:P.underlying t=some (.array n e)) (he:P.underlying e=some (.int k)) (hc:P.cellsOf e=1) (hct:P.cellsOf t=n) :
  ∃T fz,w.heap[g]?=some (.cells ((xs.map (Value.int k)).toArray) T fz):=by
 obtain⟨g1,t1,UX,f1,p1,mE,M3,lQ,pM⟩:=aLA h hm;obtain rfl:=yBw (hg.symm.trans mE);obtain rfl:=yBw (ht.symm.trans M3);obtain⟨ys,m1,rfl,hx1,hlen,hn,hel⟩:=DataW.trod_array hu pM;simp only[yAc,DataW.agg.injEq]at hx1;have hxl:xs.length=n:=by
  have:=yAP List.length hx1.1;simp only[yAe]at this;omega
 have key:∀(j:Nat) (x:Int),xs[j]?=some x->UX[j]?=some (Value.int k x):=by
  intro j x hj;have hjl:j<n:=by rw[<-hxl];exact(yA.1 hj).1
  have hy:ys[j]?=some ys[j]:=yAh ym;have h1:=hel j hjl;rw[hy,hc,yCn]at h1;obtain⟨v,e1,e2,_⟩:=DataW.trod_int he h1;have h2:=yAP (λl=>l[j]?) hx1.1;simp only[yAo,hj,hy,yAC,yAb,e2,DataW.lit.injEq,Lit.int.injEq]at h2;have h3:=yAP (λl=>l[0]?) e1;simp only[yAv,yBy,yCc,Nat.zero_lt_one,yAM,yBD]at h3;rw[<-yCi,h3,h2.2]
 have hcs:UX=(xs.map (Value.int k)).toArray:=by
  apply yBR;apply yBS;intro j;rw[yAo];cases hx:xs[j]? with
  |some x=>rw[yCi,key j x hx];rfl
  |none=>
   have hj:xs.length<=j:=yDV.1 hx;rw[yBo (by rw[hlen,hct];omega)];rfl
 have hv:=lQ;unfold World.var? at hv;rw[hg,yCD]at hv;split at hv
 .rename_i cs T fz hh;simp only[yAb]at hv;exact⟨T,fz,by rw[hh,hv,hcs]⟩
 .cases hv
theorem aEq{w:World}{g:Nat}{k:IntKind}{xs:List Int}{T:TypeId}{fz:Nat×Nat}(h:w.heap[g]?=some (.cells ((xs.map (Value.int k)).toArray) T fz)):VR (.start w) (.pointer (some ⟨g,0,none⟩)) (.cI (xs.map (PD.int k)) 0):=by
 have hadd:∀j,(⟨g,0,none⟩:Addr).add j=⟨g,j,none⟩:=λj=>ze
 have:=VR.cI (c:=.start w) ⟨g,0,none⟩ (xs.map (Value.int k)) (xs.map (PD.int k)) 0 yo (by simp[Value.oneCell']) (λj v hj=>by
  rw[hadd];refine⟨?_,aJA _⟩;show w.cell? ⟨g,j,none⟩=some v
  unfold World.cell?;simp only[h];simpa using hj) (λj v d h1 h2=>by
  rw[yAo]at h1 h2;cases hx:xs[j]? with
  |none=>rw[hx]at h1;simp at h1
  |some x=>
   rw[hx]at h1 h2;simp only[yAC,yAb]at h1 h2;subst h1 h2;exact .int k x)
 rw[hadd]at this;exact this
theorem aRH{P:Program}{w:World}{g:Nat}{t:TypeId}{k:IntKind}{zero:Dt}(h:w.ShapedOpen P)(hg:g<P.globals.size)
  (h0:((begin P (λ_ _=>0) default).world.heap[g]?).bind Obj.row?=some (zero,t)) (hz:zero.size=1) (hb:P.buildable t=true) (hty:P.cellTypes P.depth t=some [t]) (hu:P.underlying t=some (.int k)) :
  ∃m,∃T fz,w.heap[g]?=some (.cells #[.int k m] T fz):=by
 obtain⟨cs,h1,h2,h3⟩:=h.1 g zero t hg h0;have h4:=h3 hb;obtain⟨ts,e1,_,h5⟩:=h4;obtain rfl:=yBw (hty.symm.trans e1);have hsz:cs.size=1:=ym;obtain⟨u,e2,h6⟩:=h5 0 cs[0] (yCj ym);simp only[yBh,Nat.zero_mod,yBD,yAb]at e2;subst e2;unfold Cell.ok at h6;rw[hu]at h6;have hv:∃m,cs[0]=.int k m:=by
  cases hc:cs[0]with
  |int k' m=>
   rw[hc]at h6;simp only at h6;exact⟨m,by rw[h6.1]⟩
  |_=>
   rw[hc]at h6;simp at h6
 obtain⟨m,hm⟩:=hv;refine⟨m,t,(0,0),?_⟩;rw[h1];have:cs=#[.int k m]:=by
  apply Array.ext
  .simpa using hsz
  .intro i hi1 hi2;have:i=0:=ym;subst this;simpa using hm
 rw[this]
end
section
open Go Go.RowKit
theorem aRr{H:Type}{enc:TypeId×Value->H}{a:Assume}{C:Checked}{os:Os}{f:FuncId}{fn:Func}{s:ChangeSpec}{conds:List PathCond}{apart fresh handsOn again:Bool}{X:World->Array Value->Prop}
  (hX:∀(w w':World) (args:Array Value),w.heap=w'.heap->X w args->X w' args)
  (own:ownKnob C.prog.godebug=none) (started:os.Started) (noInit:C.prog.inits.idxOf? f=none) (hfn:C.prog.funcs[f]?=some fn)
  (witness:∃(w:World) (tape:Tape) (i:Input),w.os=os/\(w.forCall tape i).Shaped C.prog/\i.vars=[]/\Input.okWide C.prog (w.forCall tape i) .any w.heap.size f i /\
   ((s.pre enc C.prog fn conds apart (w.forCall tape i).memory i.args/\X (w.forCall tape i).memory i.args)/\sizedMet enc C.prog fn (OpenSpec.ofChange s) apart (w.forCall tape i).memory i.args)/\a.holds C.prog (lone (Frame.enter C.prog f i.args .normal) [] (w.forCall tape i)))
  (contract:∀(W:World) (base:Nat) (args:Array Value) (ds gs:List (DataW H)) (before:List MemPlace),W.ShapedOpen C.prog ->
   (∀(j:Nat) t v,fn.params[j]?=some t->args[j]?=some v->Value.okWide C.prog W .any base t v) ->
   DataW.Whole enc C.prog fn.params.toList s.vars apart W args.toList ds gs before ->
   conds.all (PathCond.test C.prog ⟨fn.params.toList,ds,s.plain.varTypes C.prog,gs⟩)=true ->
   (DataW.weightsEach C.prog (fn.params.toList++s.plain.varTypes C.prog) (ds++gs)).all (·<=reachBytes)=true->X W args ->
   a.holds C.prog (lone (Frame.enter C.prog f args .normal) [] W) ->
   Calls C.prog f args W λe W'=>∃v,e=.returned v/\s.post enc C.prog fn apart fresh handsOn again W args v W') :
  ReturnsInHanded a C os f .any (λw args=>(s.pre enc C.prog fn conds apart w args/\X w args)/\sizedMet enc C.prog fn (OpenSpec.ofChange s) apart w args) (s.post enc C.prog fn apart fresh handsOn again):=by
 refine returnsInHanded_of_calls own started noInit witness ?_;intro w tape i _ hsh _ hok hpre hholds;obtain⟨_,_,_,fn',aVa,_,_,_,_,hval⟩:=hok;obtain rfl:fn'=fn:=yBw (aVa.symm.trans hfn);obtain⟨⟨⟨ds,gs,before,hw,hc⟩,hx⟩,hz⟩:=hpre;have hw':=DataW.Whole.of_heap (w':=w.forCall tape i) yu hw;refine(contract (w.forCall tape i) w.heap.size i.args ds gs before hsh hval hw' hc (hz.weights hw) (hX _ _ _ yu hx) hholds).mono λe W' ⟨v,he,hp⟩=>?_
 subst he;exact ChangeSpec.post_blind hp
end
section
open Go.RowKit
section
variable{H:Type}{enc:TypeId×Value->H}{P:Program}{w:World}{base:Nat}{sp:Nat->Bool}{held:Bool}
end
end
section
open Go
section
variable{P:Program}{call:b9}{fl:Nat}{ops:Du}
end
section
variable{P:Program}{E:aE}{fl:Nat}{fr:Dq}{σ:Dp}
end
section
variable{P:Program}{call:b9}{fl:Nat}{ops:Du}
end
section
variable{P:Program}{E:aE}{fl:Nat}{fr:Dq}{σ:Dp}
end
end
section
open Go.RowKit Go.Lib
variable{P:Program}
structure Kept (p:Prop):Prop where
 out:p
theorem aZc{c:Cx}{vs:Ds}{p q r:PD}(h:aK c vs [p,q,r]):∃v u x,vs=[v,u,x]/\VR c v p/\VR c u q/\VR c x r:=by
 match vs,h.1 with
 | [v,u,x],_=>exact⟨v,u,x,rfl,h.2 0 _ _ rfl rfl,h.2 1 _ _ rfl rfl,h.2 2 _ _ rfl rfl⟩
theorem aZb(a:Addr)(j:Nat):(a.add j).block=a.block:=by cases a;unfold Addr.add;split<;>rfl
end
section
def isApp:Op->Bool
 |.call { callee:=.builtin .append,.. }=>true
 |_=>false
def aQh:Op->Bool
 |.call { callee:=.value _,.. }=>true
 |_=>false
def jF(op:Op)(σ σ':List U):Prop:=σ.length<=σ'.length/\∀(id:Nat) (b:PD),σ[id]?=some (U.box b)->∃b',σ'[id]?=some (U.box b')/\(eU op=false->b'=b)
theorem jF.same(op:Op)(σ:List U):jF op σ σ:=⟨yAk _,λ_ b h=>⟨b,h,λ_=>rfl⟩⟩
theorem jF.app(op:Op)(σ L:List U):jF op σ (σ++L):=⟨yo,λid b h=>⟨b,zp,λ_=>rfl⟩⟩
theorem jF.set(op:Op){σ:Dp}{id:Nat}{o x:U}(ho:σ[id]?=some o)(hb:∀b,o≠U.box b):jF op σ (σ.set id x):=⟨yo,λi b h=>by
 by_cases e:id=i
 .subst e;rw[ho,yAb]at h;exact absurd h (hb b)
 .exact⟨b,by rw[yAd e];exact h,λ_=>rfl⟩⟩
theorem jF.a4c{op:Op}(hop:eU op=true){σ:Dp}{id:Nat}{q:PD}:jF op σ (σ.set id (.box q)):=⟨yo,λi b hb=>by
 by_cases e:id=i
 .subst e;exact⟨q,yAj (yA.1 hb).1,λh=>by rw[hop]at h;cases h⟩
 .exact⟨b,by rw[yAd e];exact hb,λ_=>rfl⟩⟩
theorem a4d{P:Program}{fl:Nat}{σ σ':Dp}{t:TypeId}{s x p:PD}(op:Op)(h:dX P fl σ t s x=some (p,σ')):jF op σ σ':=by
 unfold dX at h
 repeat' split at h
 all_goals first
  |(cases h;done)
  |(simp only[yAb,yAc]at h;obtain⟨_,rfl⟩:=h;first|exact jF.same _ _|exact jF.app _ _ _|exact jF.set _ ‹_=some (U.own _ _ _)› (λb e=>zh))
theorem aQi{P:Program}{n fl:Nat}{σ σ':Dp}{t:TypeId}{s x p:PD}(op:Op)(h:nO P n fl σ t s x=some (p,σ')):jF op σ σ':=by
 unfold nO at h
 repeat' split at h
 all_goals first
  |(cases h;done)
  |(simp only[yAb,yAc]at h;obtain⟨_,rfl⟩:=h;first|exact jF.same _ _|exact jF.app _ _ _|exact jF.set _ ‹_=some (U.row _ _ _ _)› (λb e=>zh))
theorem a4e{P:Program}{fl:Nat}{σ σ':Dp}{t:TypeId}{a p:PD}{op:Op}(hop:eU op=true)(h:qO P fl σ t a p=some σ'):jF op σ σ':=by
 unfold qO at h
 repeat' split at h
 all_goals first
  |(cases h;done)
  |skip
 .simp only[yAb]at h;subst h;exact jF.a4c hop
 .simp only[yAb]at h;subst h;exact jF.set _ ‹_=some (U.row _ _ _ _)› (λb e=>zh)
theorem a4f{P:Program}{n:Nat}{σ σ':Dp}{t:TypeId}{s p:PD}{m:Int}(op:Op)(h:OS P n σ t s m=some (p,σ')):jF op σ σ':=by
 unfold OS at h
 repeat' split at h
 all_goals first
  |(cases h;done)
  |(simp only[yAb,yAc]at h;obtain⟨_,rfl⟩:=h;exact jF.app _ _ _)
theorem a4g{P:Program}{σ σ':Dp}{t e:TypeId}{l k:Nat}{p:PD}(op:Op)(h:xS P σ t e l k=some (p,σ')):jF op σ σ':=by
 unfold xS at h
 repeat' split at h
 all_goals first
  |(cases h;done)
  |(simp only[yAb,yAc]at h;obtain⟨_,rfl⟩:=h;first|exact jF.same _ _|exact jF.app _ _ _)
def lK(op:Op):Bool:=dF op||dE op||jO op||eU op||isApp op
theorem a4h{P:Program}{fl:Nat}{fr:Dq}{σ σ':Dp}{op:Op}{p:PD}(hop:lK op=true)(h:pop P fl fr σ op=some (p,σ')):jF op σ σ':=by
 unfold pop at h;split at h
 .simp only[yAb,yAc]at h;rw[<-h.2];exact jF.same _ _
 unfold cO at h;split at h
 all_goals first
  |(cases h;done)
  |(simp[lK,dF,dE,jO,eU,isApp]at hop;done)
  |skip
 .repeat' split at h
  all_goals first
   |(cases h;done)
   |(simp only[yAb,yAc]at h;rw[<-h.2];exact jF.same _ _)
 .repeat' split at h
  all_goals first
   |(cases h;done)
   |(rename_i hs;simp only[yAb,yAc]at h;rw[<-h.2];exact a4e rfl hs)
 .repeat' split at h
  all_goals first
   |(cases h;done)
   |(simp only[yAb,yAc]at h;rw[<-h.2];exact jF.same _ _)
 .repeat' split at h
  all_goals first
   |(cases h;done)
   |(simp only[yAb,yAc]at h;rw[<-h.2];exact jF.same _ _)
 .repeat' split at h
  all_goals first
   |(cases h;done)
   |exact a4g _ h
 .repeat' split at h
  all_goals first
   |(cases h;done)
   |(rename_i hs;cases h;exact aQi _ hs)
   |exact a4d _ h
   |exact a4f _ h
   |(simp only[yAb]at h;subst h;rename_i hs;exact aQi _ hs)
def MC(ops:List Oper):Bool:=ops.all λo=>lK o.op||aQh o.op
theorem aEb{op:Op}(h:lK op=true):bT op=false/\(cR op=true->isApp op=true):=by
 cases op<;>simp[lK,dF,dE,jO,eU,isApp,bT,cR]at h ⊢
 rename_i c;obtain⟨cal,args,ts⟩:=c;cases cal with
 |value v=>simp[dF,dE,jO,eU,isApp]at h
 |builtin b=>cases b<;>simp[dF,dE,jO,eU,isApp,cR]at h ⊢
 |invoke _ _=>simp[dF,dE,jO,eU,isApp,cR]at h ⊢
section
variable{P:Program}{E:aE}{fl:Nat}{ops:Du}
theorem X8:∀ {l:List Oper},MC l=true->j6 P l=some []
 | [],_=>rfl
 |o::l,h=>by
  simp only[MC,yBK,yAr]at h;unfold j6;split
  .rename_i t ho;have h1:=h.1;rw[ho]at h1;cases h1
  .exact X8 h.2
theorem a4i{o:Oper}(h:(lK o.op||aQh o.op)=true):bT o.op=false:=by
 rw[yBi]at h;rcases h with h|h
 .exact(aEb h).1
 .cases ho:o.op<;>rw[ho]at h<;>first|rfl|(cases h;done)
theorem aIY{B:List Nat}{n:Nat}:∀(l:List Oper) (i k:Nat) (fr:List PD) (σ:List U) (x:Dq×List U),(∀o∈l,(dF o.op||dE o.op||bT o.op||jO o.op||dJ o.op)=true)->MC l=true->(∀id∈B,∃b,σ[id]?=some (U.box b)) ->
  dS P (FM E B) fl ops l fr σ=some x->∃tr,pQ P (cD P E n) fl ops i k l fr σ=some (tr,x.1,x.2) /\
   ∀(j:Nat) (o:Oper),l[j]?=some o->cR o.op=true->(TE.at tr x.2 j).length<=(TE.at tr x.2 (j+1)).length/\∀id∈B,id<(TE.at tr x.2 j).length->(TE.at tr x.2 (j+1))[id]?=(TE.at tr x.2 j)[id]?
 | [],_,_,_,_,x,_,_,_,h=>by
   simp only[dS,yAb]at h;subst h;exact⟨[],rfl,λj o h=>Aa⟩
 |o::l,i,k,fr,σ,x,hsh,hk,hB,h=>by
  simp only[MC,yBK,yAr]at hk;obtain⟨hko,hkl⟩:=hk;have hka:=a4i hko;simp only[dS]at h;split at h
  .rename_i hw;split at h
   .rename_i p σ1 hp;have hst:bK P (cD P E n) fl fr σ o.op=some (p,σ1)/\(∀id∈B,∃b,σ1[id]?=some (U.box b))/\(cR o.op=true->σ.length<=σ1.length/\∀id∈B,id<σ.length->σ1[id]?=σ[id]?):=by
     unfold bK at hp ⊢;split at hp
     .rename_i tg args hc;obtain⟨q1,q2,q3⟩:=a1y hp;exact⟨aJI q1,λid hi=>by
       obtain⟨b,hb⟩:=hB id hi;exact⟨b,(q3 id hi (yA.1 hb).1).trans hb⟩,λ_=>⟨q2,q3⟩⟩
     .rename_i hc
      by_cases hq:lK o.op=true
      .obtain⟨b1,b2⟩:=a4h hq hp;refine⟨hp,λid hi=>by
        obtain⟨b,hb⟩:=hB id hi;obtain⟨b',hb',_⟩:=b2 id b hb;exact⟨b',hb'⟩,λhm=>⟨b1,λid hi _=>?_⟩⟩
       obtain⟨b,hb⟩:=hB id hi;obtain⟨b',hb',e⟩:=b2 id b hb;have hns:eU o.op=false:=by
        have:=(aEb hq).2 hm;cases ho:o.op<;>rw[ho]at this<;>first|rfl|(cases this;done)
       rw[hb',hb,e hns]
      .exfalso
       simp only[hq,yC]at hko;cases ho:o.op<;>rw[ho]at hko<;>first|(cases hko;done)|skip
       rename_i c;obtain⟨cal,args,ts⟩:=c;cases cal with
       |value v=>
        rw[ho]at hp;unfold pop at hp;simp[dB,cO]at hp
       |builtin b=>cases hko
       |invoke _ _=>cases hko
    obtain⟨tr,h1,h2⟩:=aIY (n:=n) l (i+1) k _ _ x (λo ho=>hsh o (by simp[ho])) hkl hst.2.1 h;refine⟨⟨fr,σ,p,nL fr o.op⟩::tr,?_,?_⟩
    .simp only[pQ,hw,yAM,hka,yAx,yAO];rw[T3 (hsh o yo) hka];simp only[Bool.or_true,hst.1,h1]
    .intro j o' ho' hm;cases j with
     |zero=>
      simp only[yBD,yAb]at ho';subst ho';rw[TE.WO,TE.aOu,TE.aOv h1];exact hst.2.2 hm
     |succ j=>
      rw[TE.WO,TE.WO];exact h2 j o' (by simpa using ho') hm
   .cases h
  .rename_i hw;obtain⟨tr,h1,h2⟩:=aIY (n:=n) l (i+1) k _ _ x (λo ho=>hsh o (by simp[ho])) hkl hB h;refine⟨⟨fr,σ,.aI [],none⟩::tr,?_,?_⟩
   .simp only[pQ,hw,yAx,yAO,hka,h1]
   .intro j o' ho' hm;cases j with
    |zero=>
     rw[TE.WO,TE.aOu,TE.aOv h1];exact⟨yAk _,λ_ _ _=>rfl⟩
    |succ j=>
     rw[TE.WO,TE.WO];exact h2 j o' (by simpa using ho') hm
theorem aIW{n:Nat}{fr:Dq}{σ:Dp}{x:Dq×Dp}(ρ:List (Nat×Nat))(B:List Nat){L:List (Option Nat)}(hs:(vL ops&&MC ops.toList&&TN ops)=true)(hbx:∀id∈B,∃b,σ[id]?=some (U.box b))(hd:kX P (cD P E n) fl ops fr σ=none)
  (hρ:(cG.of ρ).ok fr) (hL:WQ ops.toList (cG.of ρ)=L) (hB:wC B L) (h:dS P (FM E B) fl ops ops.toList fr σ=some x):iO P (cD P E n) fl ops fr σ=some x:=by
 simp only[yAr,vL]at hs;obtain⟨⟨h1,h2⟩,h3⟩:=hs;rw[o4]at h1;have hr:=MK h1;obtain⟨tr,e1,e2⟩:=aIY (n:=n) ops.toList 0 σ.length fr σ x (λo ho=>by
  obtain⟨i,hi⟩:=yCH ho;exact hr.shape i o Bo) h2 hbx h
 have hft:=aHU _ _ _ _ _ _ _ _ _ e1 hρ;unfold iO;rw[hd];simp only[h1,yAM,X8 h2,yAl,e1];rw[yAJ];refine⟨?_,?_⟩
 .simp only[qP,yAn,yAY];intro k hk;rw[TN,o4]at h3;simp only[yAn,yAY,yBi,yBu]at h3;have dI:=h3 k Bw;simp only[yBi,yBu,yAn,yAY];rcases dI with dI|dI
  .exact .inl dI
  .refine .inr λi hi=>?_
   rcases dI i Bo with h|h
   .exact .inl (.inl h)
   .exact .inl (.inr h)
 .intro k i id ok oi hk hi hm hl hlo hid;obtain⟨q1,q2⟩:=e2 k ok hk hm;refine⟨q1,q2 id ?_⟩;have hkl:=(yA.1 hk).1;have hil:=(yA.1 hi).1;have hmem:(pT (cG.of ρ) ops.toList).getD i none∈L:=by
   rw[<-hL,WQ,o4];refine yCt.2 ⟨k,yAY.2 hkl,?_⟩;have a1:eL cR ops.toList k=true:=by
    unfold eL;rw[hk];exact hm
   have a2:eL dE ops.toList i=true:=by
    unfold eL;rw[hi];exact hl
   rw[yAJ a1];exact yDQ.2 ⟨i,yAY.2 hil,by rw[a2,hlo];rfl⟩
  obtain⟨a,ha,haB⟩:=aOw hB _ hmem;rw[hft i id a hid ha];exact haB
def aEd(ops:Array Oper):Bool:=vC ops.toList [] λms=>EM ops ms&&(List.range ops.toList.length).all λk=>!eL eU ops.toList k||(List.range ops.toList.length).all λi=>!eL dE ops.toList i||!loose ms i k
def DQ(P:Program)(call:b9)(fl:Nat)(ops:Array Oper)(i k:Nat)(l:List Oper)(fr:List PD)(σ:List U)(F:List PD)(S:List U):Prop:=∃tr,eM P call fl ops (bU ops.toList []) i k l fr σ=some (tr,F,S)
theorem DQ.nil{call:b9}{i k:Nat}{fr:Dq}{σ:Dp}:DQ P call fl ops i k [] fr σ fr σ:=⟨[],rfl⟩
theorem DQ.step{call:b9}{i k:Nat}{o:Oper}{rest:List Oper}{fr F aH:Dq}{σ σ' S:Dp}{p:PD}(hw:(Region.wanted o (bA ops fr)&&!bT o.op)=true)(hp:eF P call fl (gH ops.toList (bU ops.toList []) i) k fr σ o.op=some (p,σ'))(hf:aM fr o.dst p=aH)
  (h:DQ P call fl ops (i+1) k rest aH σ' F S):DQ P call fl ops i k (o::rest) fr σ F S:=by
 rw[yAr,yBu]at hw;obtain⟨tr,h⟩:=h;refine⟨⟨fr,σ,p,nL fr o.op⟩::tr,?_⟩;rw[<-hf]at h;simp only[eM,hw.1,hw.2,yAM,hp,h,yAx,yAO]
theorem DQ.alloc{call:b9}{i k:Nat}{o:Oper}{rest:List Oper}{fr F aH:Dq}{σ S:Dp}(hw:(Region.wanted o (bA ops fr)&&bT o.op)=true)(hf:aM fr o.dst (.ptr k 0)=aH)
  (h:DQ P call fl ops (i+1) (k+1) rest aH σ F S):DQ P call fl ops i k (o::rest) fr σ F S:=by
 rw[yAr]at hw;obtain⟨tr,h⟩:=h;refine⟨⟨fr,σ,.ptr k 0,nL fr o.op⟩::tr,?_⟩;rw[<-hf]at h;have ha:dF o.op=false:=by
  have:=hw.2;cases ho:o.op<;>rw[ho]at this<;>first|rfl|(cases this;done)
 have hp:eF P call fl (gH ops.toList (bU ops.toList []) i) k fr σ o.op=some (.ptr k 0,σ):=by
  unfold eF;rw[ha,yAI yx,yAJ hw.2]
 simp only[eM,hw.1,hw.2,yAM,hp,h]
theorem aDP{call:b9}{free:Bool}{k:Nat}{fr:Dq}{σ:Dp}{t:TypeId}{x:Operand}{a p:PD}(hx:bF fr x=some a)(h:kW P σ t a=some p):eF P call fl free k fr σ (.load t x)=some (p,σ):=by
 simp only[eF,dF,bT,cR,yCh,yCV,yAx,yAO,cO,cS hx,h]
theorem aPt{call:b9}{free:Bool}{k:Nat}{fr:Dq}{σ σ':Dp}{t:TypeId}{x y:Operand}{a p:PD}(hx:bF fr x=some a)(hy:bF fr y=some p)(h:qO P fl σ t a p=some σ'):eF P call fl free k fr σ (.store t x y)=some (.aI [],σ'):=by
 simp only[eF,dF,bT,cR,yCh,yCV,yAx,yAO,cO,cS hx,cS hy,h]
theorem Wp.aH5{rd:Option Nat}{ms:List Nat}{Q:PO->Prop}{id f:Nat}{g:Dj}{fr:Dq}{σ:Dp}(hE:E f=some g)(hg:∀fl args σ,0<fl->g fl args σ=none)(oJ:σ≠[])(ρ:List (Nat×Nat))(B:List Nat)(L:List (Option Nat))
  (hs:(vL ops&&MC ops.toList&&TN ops&&X9 f ops)=true) (hbx:∀id∈B,∃b,σ[id]?=some (U.box b)) (hρ:cG.X7 fr ρ) (hL:WQ ops.toList (cG.of ρ)=L) (hB:wC B L) (h:SQ P (FM E B) fl ops ops.toList fr σ (λfr' σ'=>Q ⟨.normal,fr',ms,σ'⟩)) :
  Wp P E rd (.region id ops true) fl fr ms σ Q:=by
 obtain⟨fr',σ',h1,h2⟩:=h.ex;rw[yAr]at hs;refine⟨_,.OX (N:=0) (λn _=>aIW ρ B hs.1 hbx ?_ (cG.aEc ρ hρ) hL hB h1),h2⟩;have h2:=hs.1;have h4:=hs.2;simp only[yAr,vL]at h2;obtain⟨⟨a1,a2⟩,_⟩:=h2;rw[o4]at a1;have hr:=MK a1;cases hd:kX P (cD P E n) fl ops fr σ with
 |none=>rfl
 |some y=>
  exfalso
  unfold kX at hd;simp only[a1,yAM,X8 a2,yAl]at hd;rw[X9,o4]at h4;simp only[List.any_eq_true,yAY,yAr,yBu,yAn]at h4;obtain⟨k,hk,⟨b1,b2⟩,b3⟩:=h4;have hkl:k<ops.toList.length:=Bw;have hno:eM P (cD P E n) fl ops (bU ops.toList []) 0 σ.length ops.toList fr σ=none:=by
   exact cc
  rw[hno]at hd;cases hd
end
end
section
def aDp:List Oper->Bool
 | ⟨some _,.buildSlice _ _ _,_,_,_,none⟩::⟨_,.convert _ _ _,_,_,_,none⟩::_=>false
 |_=>true
theorem a1p{P:Program}{call:b9}{fl:Nat}{ops:Du}{l:List Oper}{fr:Dq}{σ:Dp}(h:aDp l=true):UT P call fl ops l fr σ=none:=by
 unfold UT;split
 .simp[aDp]at h
 .rfl
section
variable{P:Program}{E:aE}{rd:Option Nat}{fl:Nat}{fr:Dq}{ms:List Nat}{σ:Dp}{Q:PO->Prop}{ops:Du}
theorem a1q{n:Nat}{op:Op}{x:Value×Dp}(h:o7 E fl fr σ op=some x):bK P (cD P E n) fl fr σ op=none:=by
 unfold o7 at h;split at h
 .rfl
 .split at h
  .rename_i f args htg;split at h
   .rename_i g hg;split at h
    .rename_i hn;unfold bK;rw[htg];simp only[cD,oI,hg,hn]
    .cases h
   .cases h
  .cases h
theorem aHQ{n:Nat}{o:Oper}{rest:List Oper}{v:Value}{aH:Dq}{σ1 σ2:Dp}(hw:Region.wanted o (bA ops aH)=true)(hp:o7 E fl aH σ1 o.op=some (v,σ2)):∀ {pre:List Oper} {fr:Dq} {σ:Dp},dS P (cW E) fl ops pre fr σ=some (aH,σ1) ->
  EV P E (cD P E n) fl ops (pre++o::rest) fr σ=some (v,aH,σ2)/\dS P (cD P E n) fl ops (pre++o::rest) fr σ=none
 | [],fr,σ,h=>by
   simp only[dS,yAb,yAc]at h;obtain⟨rfl,rfl⟩:=h;simp only[yAQ,EV,dS,hw,yAM,a1q hp,hp,yCw]
 |o'::pre,fr,σ,h=>by
  simp only[dS,yAR,EV]at h ⊢;split at h
  .rename_i hw';rw[yAJ hw',yAJ hw'];split at h
   .rename_i p σ' hst;rw[QQ hst];exact aHQ hw hp h
   .cases h
  .rename_i hw';rw[yAI hw',yAI hw'];exact aHQ hw hp h
structure dH (E:aE) (fl:Nat) (ops:Array Oper) (ms:List Nat) (Q:PO->Prop) (o:Oper) (fr:List PD) (σ:List U):Prop where
 w:Region.wanted o (bA ops fr)=true
 ex:∃v σ',o7 E fl fr σ o.op=some (v,σ')/\Q ⟨.panic v,fr,ms,σ'⟩
theorem WL.eE{id:Nat}(k:Nat){o:Oper}{rest:List Oper}(hp:aDp ops.toList=true)(hd:ops.toList.drop k=o::rest)(h:SQ P (cW E) fl ops (ops.toList.take k) fr σ (dH E fl ops ms Q o)):Wp P E rd (.region id ops false) fl fr ms σ Q:=by
 obtain⟨aH,σ1,h1,hw,v,σ2,h2,h3⟩:=h.ex;refine⟨_,.aSC (N:=0) (λn _=>?_),h3⟩;have hl:ops.toList=ops.toList.take k++o::rest:=by rw[<-hd,yCK]
 obtain⟨e1,e2⟩:=aHQ (P:=P) (E:=E) (n:=n) (rest:=rest) hw h2 h1;rw[<-hl]at e1 e2;refine⟨?_,e1⟩;unfold OW;rw[e2];exact a1p hp
theorem WL.bD{id:Nat}{y:Code}(k:Nat){o:Oper}{rest:List Oper}(hp:aDp ops.toList=true)(hd:ops.toList.drop k=o::rest)(h:SQ P (cW E) fl ops (ops.toList.take k) fr σ (dH E fl ops ms Q o)):Wp P E rd (.seq (.region id ops false) y) fl fr ms σ Q:=
 .seq (WL.eE k hp hd ⟨h.ex.choose,h.ex.choose_spec.choose,h.ex.choose_spec.choose_spec.1,h.ex.choose_spec.choose_spec.2.w,by
  obtain⟨v,σ',h1,h2⟩:=h.ex.choose_spec.choose_spec.2.ex;exact⟨v,σ',h1,.panic h2⟩⟩)
theorem dH.call{dst:Option Tmp}{ty:TypeId}{pos:String}{edges:Array Edge}{guard:Option (Nat×Bool)}{g:Operand}{args:Array Operand}{ts:Array TypeId}{f:FuncId}{cap ps:Dq}{v:Value}{σ':Dp}{gr:Dj}{q:Nat->List PD->List U->Option (Value×List U)}
  (hw:Wt (Region.wanted ⟨dst,.call { callee:=.value g,args:=args,argTypes:=ts },ty,pos,edges,guard⟩ (bA ops fr)=true)) (hg:bF fr g=some (.func f cap)) (hx:ER fr args.toList=some ps) (h1:E.ret f=some gr) (h2:E.bD f=some q)
  (h3:gr fl (ps++cap) σ=none) (h4:q fl (ps++cap) σ=some (v,σ')) (k:Q ⟨.panic v,fr,ms,σ'⟩):dH E fl ops ms Q ⟨dst,.call { callee:=.value g,args:=args,argTypes:=ts },ty,pos,edges,guard⟩ fr σ:=
 ⟨hw.h,v,σ',by simp only[o7,dO,cS hg,MV hx,h1,h2,h3,h4],k⟩
theorem dH.op{dst:Option Tmp}{ty:TypeId}{pos:String}{edges:Array Edge}{guard:Option (Nat×Bool)}{x:Operand}{p:PD}{v:Value}
  (hw:Wt (Region.wanted ⟨dst,.panic x,ty,pos,edges,guard⟩ (bA ops fr)=true)) (hx:bF fr x=some p) (hv:p.fail=some v) (k:Q ⟨.panic v,fr,ms,σ⟩):dH E fl ops ms Q ⟨dst,.panic x,ty,pos,edges,guard⟩ fr σ:=
 ⟨hw.h,v,σ,by simp only[o7,cS hx,hv],k⟩
end
section
variable{P:Program}{E:aE}{rd:Option Nat}{fl:Nat}{fr:Dq}{ms:List Nat}{σ:Dp}{Q:PO->Prop}{ops:Du}
theorem aOp{n k:Nat}{free:Bool}{op:Op}{x:PD×Dp}(h:eF P (cW E) fl free k fr σ op=some x):eF P (cD P E n) fl free k fr σ op=some x:=by
 unfold eF at h ⊢;split at h
 .rename_i h1;rw[yAJ h1];exact h
 .rename_i h1;rw[yAI h1];split at h
  .rename_i h2;rw[yAJ h2];exact h
  .rename_i h2;rw[yAI h2];split at h
   .rename_i h3;rw[yAJ h3];split at h
    .rename_i p σ' hp;rw[QQ hp];exact h
    .cases h
   .rename_i h3;rw[yAI h3];split at h
    .rename_i h4;rw[yAJ h4];exact QQ h
    .rename_i h4;rw[yAI h4];exact h
theorem aOq{n cE:Nat}{op:Op}{x:Value×Dp}(h:o7 E fl fr σ op=some x):bK P (cD P E n) cE fr σ op=bK P (cW E) cE fr σ op:=by
 unfold o7 at h;split at h
 .rfl
 .split at h
  .rename_i f args htg;split at h
   .rename_i g hg;unfold bK;rw[htg];simp only[cD,oI,cW,hg]
   .cases h
  .cases h
theorem aOr{n k:Nat}{free:Bool}{op:Op}{x:Value×Dp}(h:o7 E fl fr σ op=some x):eF P (cD P E n) fl free k fr σ op=eF P (cW E) fl free k fr σ op:=by
 unfold eF;rw[aOq h,aOq h]
theorem aHR{n:Nat}{ms':List Nat}:∀(l:List Oper) (i k:Nat) (fr:List PD) (σ:List U) (y),eM P (cD P E n) fl ops ms' i k l fr σ=some y->G4 P E fl ops (gH ops.toList ms') i k l fr σ=none
 | [],_,_,_,_,_,_=>rfl
 |o::rest,i,k,fr,σ,y,h=>by
  simp only[eM,G4]at h ⊢;split at h
  .rename_i hw;rw[yAJ hw];split at h
   .rename_i p σ' hp;split at h
    .rename_i tr fr' qV hr;cases hd:eF P (cW E) fl (gH ops.toList ms' i) k fr σ o.op with
     |some x=>
      have:=aOp (n:=n) hd;rw[hp]at this;simp only[yAb]at this;subst this;exact aHR rest _ _ _ _ _ hr
     |none=>
      exact kz
    .cases h
   .cases h
  .rename_i hw;rw[yAI hw];split at h
   .rename_i tr fr' qV hr;exact aHR rest _ _ _ _ _ hr
   .cases h
theorem aHS{n:Nat}:∀(l:List Oper) (i k:Nat) (fr:List PD) (σ:List U) (y),pQ P (cD P E n) fl ops i k l fr σ=some y->G4 P E fl ops (λ_=>true) i k l fr σ=none
 | [],_,_,_,_,_,_=>rfl
 |o::rest,i,k,fr,σ,y,h=>by
  simp only[pQ,G4]at h ⊢;split at h
  .rename_i hw;rw[yAJ hw];split at h
   .rename_i p σ' hp;split at h
    .rename_i tr fr' qV hr;cases hd:eF P (cW E) fl true k fr σ o.op with
     |some x=>
      have:=aOp (n:=n) hd;rw[hp]at this;simp only[yAb]at this;subst this;exact aHS rest _ _ _ _ _ hr
     |none=>
      exact kz
    .cases h
   .cases h
  .rename_i hw;rw[yAI hw];split at h
   .rename_i tr fr' qV hr;exact aHS rest _ _ _ _ _ hr
   .cases h
theorem a1r{n:Nat}{y:Value×Dp}(h:M0 P E fl ops fr σ=some y):iO P (cD P E n) fl ops fr σ=none:=by
 unfold M0 at h;split at h
 .rename_i hs hho;split at h
  .rename_i v τ v2 lF h1 h2;unfold iO;cases hd:kX P (cD P E n) fl ops fr σ with
   |some z=>
    exfalso
    unfold kX at hd;simp only at hd;split at hd
    .rw[hho]at hd;simp only at hd;split at hd
     .rename_i tr fr' σ' ho;rw[aHR _ _ _ _ _ _ ho]at h1;cases h1
     .cases hd
    .cases hd
   |none=>
    simp only;split
    .rw[hho];simp only;split
     .rename_i tr fr' σ' ho;rw[aHS _ _ _ _ _ _ ho]at h2;cases h2
     .rfl
    .rfl
  .cases h
 .cases h
theorem Ev.a1s{id:Nat}{v:Value}{τ:Dp}(h:M0 P E fl ops fr σ=some (v,τ)):Ev P E rd (.region id ops true) fl fr ms σ ⟨.panic v,fr,ms,τ⟩:=
 .step (N:=0) λn _=>by
  have:=a1r (n:=n) h;unfold cD at this;simp only[gP,this,h]
theorem a1t:cD P E 0=cW E:=by
 funext fl tg args σ
 cases tg with
 |inl f=>
  simp only[cD,oI,cW];cases E.ret f with
  |some g=>rfl
  |none=>
   simp only[UI,gP];split
   .split<;>rfl
   .rfl
 |inr id=>
  simp only[cD,oI,cW,UP,gP];split
  .split
   .split<;>rfl
   .rfl
  .rfl
structure IA (P:Program) (E:aE) (fl:Nat) (ops:Array Oper) (o:Oper) (v:Value) (τ:List U) (fr:List PD) (σ:List U):Prop where
 w:Region.wanted o (bA ops fr)=true
 h1:bK P (cW E) fl fr σ o.op=none
 h2:bK P (cW E) (max fl σ.length) fr σ o.op=none
 h3:o7 E fl fr σ o.op=some (v,τ)
def WM(l:List Oper):Bool:=l.all λo=>(dF o.op||dE o.op||bT o.op||jO o.op||dJ o.op)&&!bT o.op&&(match o.op with
 |.box ..=>false
 |.call { callee:=.builtin .append,.. }=>false
 |.call { callee:=.builtin .copy,.. }=>false
 |_=>true)
def WN(o:Oper):Bool:=match o.op with
 |.call { callee:=.value _,.. }=>true
 |_=>false
theorem aHT(hU:aG E){b:Nat->Bool}{o:Oper}{rest:List Oper}{v:Value}{τ:Dp}(hc:WN o=true):∀(pre:List Oper) (i k:Nat) (fr:List PD) (σ:List U) (aH:List PD) (σ1:List U),WM pre=true->dS P (fK E) fl ops pre fr σ=some (aH,σ1)->IA P E fl ops o v τ aH σ1 ->
  G4 P E fl ops b i k (pre++o::rest) fr σ=some (v,τ)
 | [],i,k,fr,σ,aH,σ1,_,h,hp=>by
   simp only[dS,yAb,yAc]at h;obtain⟨rfl,rfl⟩:=h;simp only[yAQ,G4,hp.w,yAM];have hsh:(dF o.op||dE o.op||bT o.op||jO o.op||dJ o.op)=true/\bT o.op=false:=by
    obtain⟨dst,op,ty,pos,after,guard⟩:=o;cases op<;>simp[WN]at hc
    rename_i c;obtain⟨callee,args,ts⟩:=c;cases callee<;>simp at hc
    exact⟨rfl,rfl⟩
   rw[T3 hsh.1 hsh.2,hp.h1,hp.h2];cases(!cR o.op||b i)<;>exact hp.h3
 |o'::pre,i,k,fr,σ,aH,σ1,hpre,h,hp=>by
  simp only[WM,yBK,yAr,yBu]at hpre;obtain⟨⟨⟨a1,a2⟩,a3⟩,a4⟩:=hpre;simp only[dS,yAR,G4]at h ⊢;split at h
  .rename_i hw;rw[yAJ hw];split at h
   .rename_i p σ' hst;have e:eF P (cW E) fl (b i) k fr σ o'.op=some (p,σ'):=by
     rw[T3 a1 a2];cases hm:cR o'.op with
     |false=>exact aJz hU hst
     |true=>
      have e1:=QP hU (cE:=fl) a3 hm hst;have e2:=QP hU (cE:=max fl σ.length) a3 hm hst;have e3:σ'=σ:=e1.2;subst e3;cases b i with
      |true=>exact e1.1
      |false=>
       simp only[yBH,yCZ,e2.1];simp
    rw[e];exact aHT hU hc pre _ _ _ _ _ _ a4 h hp
   .cases h
  .rename_i hw;rw[yAI hw];exact aHT hU hc pre _ _ _ _ _ _ a4 h hp
theorem WL.aOs{id:Nat}(k:Nat){hs:Dp}{o:Oper}{rest:List Oper}{v:Value}{τ:Dp}(f:FuncId)(x:PD)(hU:aG E)(hho:j6 P ops.toList=some hs)(hd:ops.toList.drop k=o::rest)(hc:WN o=true)(hpre:WM (ops.toList.take k)=true)(hlow:(ops.toList.all λo=>match o.dst with|some d=>decide (7<=d)|none=>true)=true)
  (h:SQ P (fK E) fl ops (ops.toList.take k) fr (σ++hs) (IA P E fl ops o v τ)) (hx:x.marked=true) (hf:∃fr' σ',(∀n,iO P (cD P (E.KC fl f x v τ) n) fl ops fr σ=some (fr',σ'))/\fr'.any PD.marked=true) (hQ:Q ⟨.panic v,fr,ms,τ⟩) :
  Wp P E rd (.region id ops true) fl fr ms σ Q:=by
 refine⟨_,.a1s ?_,hQ⟩;obtain⟨aH,σ1,h1,h2⟩:=h.ex;have hl:ops.toList=ops.toList.take k++o::rest:=by rw[<-hd,yCK]
 have hw:=λb=>aHT hU (b:=b) hc (ops.toList.take k) 0 σ.length fr (σ++hs) aH σ1 hpre h1 h2 (rest:=rest)
 rw[<-hl]at hw;unfold M0;rw[hho];simp only[hw];obtain⟨fr',σ',h3,h4⟩:=hf;have h5:=h3 0;rw[a1t]at h5;rw[yAJ ⟨rfl,rfl,hlow,f,x,fr',σ',h5,h4,hx⟩]
theorem WL.a1u{id:Nat}{y:Code}(k:Nat){hs:Dp}{o:Oper}{rest:List Oper}{v:Value}{τ:Dp}(f:FuncId)(x:PD)(hU:aG E)(hho:j6 P ops.toList=some hs)(hd:ops.toList.drop k=o::rest)(hc:WN o=true)(hpre:WM (ops.toList.take k)=true)(hlow:(ops.toList.all λo=>match o.dst with|some d=>decide (7<=d)|none=>true)=true)
  (h:SQ P (fK E) fl ops (ops.toList.take k) fr (σ++hs) (IA P E fl ops o v τ)) (hx:x.marked=true) (hf:∃fr' σ',(∀n,iO P (cD P (E.KC fl f x v τ) n) fl ops fr σ=some (fr',σ'))/\fr'.any PD.marked=true) (hQ:Q ⟨.panic v,fr,ms,τ⟩) :
  Wp P E rd (.seq (.region id ops true) y) fl fr ms σ Q:=
 .seq (WL.aOs k f x hU hho hd hc hpre hlow h hx hf (.panic hQ))
theorem IA.call{dst:Option Tmp}{ty:TypeId}{pos:String}{edges:Array Edge}{guard:Option (Nat×Bool)}{g:Operand}{args:Array Operand}{ts:Array TypeId}{f:FuncId}{cap ps:Dq}{v:Value}{σ':Dp}{gr:Dj}{q:Nat->List PD->List U->Option (Value×List U)}
  (hw:Wt (Region.wanted ⟨dst,.call { callee:=.value g,args:=args,argTypes:=ts },ty,pos,edges,guard⟩ (bA ops fr)=true)) (hg:bF fr g=some (.func f cap)) (hx:ER fr args.toList=some ps) (h1:E.ret f=some gr) (h2:E.bD f=some q)
  (h3:gr fl (ps++cap) σ=none) (h5:gr (max fl σ.length) (ps++cap) σ=none) (h4:q fl (ps++cap) σ=some (v,σ')):IA P E fl ops ⟨dst,.call { callee:=.value g,args:=args,argTypes:=ts },ty,pos,edges,guard⟩ v σ' fr σ:=
 ⟨hw.h,by simp only[bK,dO,cS hg,MV hx,cW,h1,h3],by simp only[bK,dO,cS hg,MV hx,cW,h1,h5],by simp only[o7,dO,cS hg,MV hx,h1,h2,h3,h4]⟩
end
theorem aL.panic{I:Nat->List PD->List U->Prop}{m:Nat}{fr:Dq}{ms ms':List Nat}{σ:Dp}{Q:PO->Prop}{v:Value}(h:Q ⟨.panic v,fr,ms',σ⟩):aL I m ms Q ⟨.panic v,fr,ms',σ⟩:=⟨λe=>zh,λ_=>h⟩
theorem aB{σ:Dp}{i:Nat}{x:U}(h:σ[i]?=some x):∃hl:i<σ.length,σ[i]=x/\(∀τ,(σ++τ)[i]?=some x)/\(∀y,(σ.set i y)[i]?=some y)/\(∀y τ,(σ++τ).set i y=σ.set i y++τ)/\∀y τ,(σ.set i y++τ)[i]?=some y:=by
 obtain⟨hl,e⟩:=yA.1 h;exact⟨hl,e,λτ=>by rw[yAg hl];exact h,λy=>yAj hl,λy τ=>yCI _ _ hl,λy τ=>by rw[yAg (by rw[yAD];exact hl)];exact yAj hl⟩
theorem bO(σ:List U):(∀x,(σ++[x])[σ.length]?=some x)/\(∀x y,(σ++[x]).set σ.length y=σ++[y])/\∀i x y,(σ.set i y++[x])[σ.length]?=some x:=
 ⟨λx=>yo,λx y=>yo,λi x y=>by
  have h:(σ.set i y).length=σ.length:=yo;rw[<-h];simp⟩
section
variable{P:Program}{call:b9}{fl:Nat}{fr aH:Dq}{σ:Dp}{ops:Du}{K:List PD->List U->Prop}{l:List Oper}{dst:Option Tmp}{ty:TypeId}{pos:String}{edges:Array Edge}{guard:Option (Nat×Bool)}{t:TypeId}{x:Operand}{p:PD}
theorem SL.ZQ{fs:Array Field}(hu:P.underlying t=some (.struct fs))(hw:Wt (Region.wanted ⟨dst,.makeInterface t x,ty,pos,edges,guard⟩ (bA ops fr)=true))(hx:bF fr x=some p)(hf:Fr (aM fr dst (.iface t p)=aH))(k:SQ P call fl ops l aH σ K) :
  SQ P call fl ops (⟨dst,.makeInterface t x,ty,pos,edges,guard⟩::l) fr σ K:=by
 have:=hf.h;subst this;exact SQ.step hw.h (by simp only[bK,dO,pop,dB,hu,cS hx]) k
theorem SL.ZR{fs:Array Field}{u:TypeId}(hu:P.underlying t=some (.struct fs))(hw:Wt (Region.wanted ⟨dst,.typeAssert x u t true,ty,pos,edges,guard⟩ (bA ops fr)=true))(hx:bF fr x=some (.iface t p))(hf:Fr (aM fr dst (.aI [p,.bool true])=aH))(k:SQ P call fl ops l aH σ K) :
  SQ P call fl ops (⟨dst,.typeAssert x u t true,ty,pos,edges,guard⟩::l) fr σ K:=by
 have:=hf.h;subst this;exact SQ.step hw.h (by simp only[bK,dO,pop,dB,hu,cS hx,yAM]) k
theorem SL.ZS{ms:Array (String×TypeId)}{u t2:TypeId}{q:PD}(hu:P.underlying t=some (.interface ms))(hx:bF fr x=some (.iface u q))(hw:Wt (Region.wanted ⟨dst,.binOp .neq t x (.const .nilIface) t2,ty,pos,edges,guard⟩ (bA ops fr)=true))(hf:Fr (aM fr dst (.bool true)=aH))(k:SQ P call fl ops l aH σ K) :
  SQ P call fl ops (⟨dst,.binOp .neq t x (.const .nilIface) t2,ty,pos,edges,guard⟩::l) fr σ K:=by
 have:=hf.h;subst this;refine SQ.step hw.h ?_ k;have e:eO P .neq t (.iface u q) (.bG .nilIface)=none:=by
  unfold eO sW mA;simp only[hu]
 exact ow
theorem SL.ZT{ms:Array (String×TypeId)}{t2:TypeId}(hu:P.underlying t=some (.interface ms))(hx:bF fr x=some (.bG .nilIface))(hw:Wt (Region.wanted ⟨dst,.binOp .neq t x (.const .nilIface) t2,ty,pos,edges,guard⟩ (bA ops fr)=true))(hf:Fr (aM fr dst (.bool false)=aH))(k:SQ P call fl ops l aH σ K) :
  SQ P call fl ops (⟨dst,.binOp .neq t x (.const .nilIface) t2,ty,pos,edges,guard⟩::l) fr σ K:=by
 have:=hf.h;subst this;refine SQ.step hw.h ?_ k;have e:eO P .neq t (.bG .nilIface) (.bG .nilIface)=none:=by
  unfold eO sW mA;simp only[hu]
 exact ow
end
section
variable{P:Program}{E:aE}
def SW(P:Program)(E:aE)(fl:Nat)(f:FuncId)(args:List PD)(σ:List U)(v:Value)(σ':List U):Prop:=
 ∃fn c fr',P.funcs[f]?=some fn/\fn.body=some c/\Ev P E none c fl (args++List.replicate (fn.ntmps-args.length) (.aI [])) [] σ ⟨.panic v,fr',[],σ'⟩
theorem SW.calls(hE:aF P E)(hP:P.follows .mixedOrders=true){F:Fence}{fl:Nat}{f:FuncId}{args:Dq}{c:Cx}{vs:Ds}{v:Value}{σ':Dp}(h:SW P E fl f args c.σ v σ')(hF:Open F P)(hs:Sr c)(hX:Xw fl c)(hv:aK c vs args) :
  (∃fn,P.funcs[f]?=some fn/\fn.body.isSome=true)/\∀m,CallsIn F m P f vs.toArray c.w (aEX fl c v σ'):=by
 obtain⟨fn,bd,fr',hfn,hbd,N,hN⟩:=h;refine⟨⟨fn,hfn,by simp[hbd]⟩,λm=>?_⟩;have vH:Open { F with round:=none } P:=⟨hF.fn,hF.depth,hF.name,hF.alive⟩;have key:CallsIn { F with round:=none } m P f vs.toArray c.w (aEX fl c v σ'):=by
  refine yDN hfn hbd (hF.fn f) (nR.wpIn ?_);have hfr:aK c (vs.toArray++Array.replicate (fn.ntmps-vs.toArray.size) undef).toList (args++List.replicate (fn.ntmps-args.length) (.aI [])):=by
   exact aj
  refine Y5 hE hP N (a:={ tmps:=_,defers:=[] }) (B:=[]) vH (hN N (yAk _)) hs hX ⟨hfr,hs.iG⟩ rfl (rfl:EW { F with round:=none } c none) m _ λc1 a1 e1 hs1 gQ eY jI=>?_
  have hd:a1.defers=[]:=by
   revert jI
   exact jl
  show LeavesInM _ m P fn a1.tmps _ a1.defers (.panicking [{ v,recovered:=false }]) c1.w
  rw[hd];exact⟨rfl,c1,rfl,e1,hs1,gQ⟩
 exact⟨key.1,key.2⟩
def mY(P:Program)(E:aE)(f:FuncId)(Q:List PD->List U->Value->List U->Prop):Nat->List PD->List U->Option (Value×List U):=by
 classical
 exact λfl args σ=>if h:∃r:Value×List U,SW P E fl f args σ r.1 r.2/\Q args σ r.1 r.2 then some h.choose else none
theorem a1v{f:FuncId}{Q:List PD->List U->Value->List U->Prop}{fl:Nat}{args:Dq}{σ σ':Dp}{v:Value}(h:mY P E f Q fl args σ=some (v,σ')):SW P E fl f args σ v σ'/\Q args σ v σ':=by
 unfold mY at h;exact nk
theorem a1w{f:FuncId}{Q:List PD->List U->Value->List U->Prop}{fl:Nat}{args:Dq}{σ:Dp}(h:∃v σ',SW P E fl f args σ v σ'/\Q args σ v σ'):∃v σ',mY P E f Q fl args σ=some (v,σ')/\Q args σ v σ':=by
 obtain⟨v,σ',h1,h2⟩:=h;have hx:∃r:Value×List U,SW P E fl f args σ r.1 r.2/\Q args σ r.1 r.2:=⟨(v,σ'),h1,h2⟩;refine⟨hx.choose.1,hx.choose.2,?_,hx.choose_spec.2⟩;unfold mY;rw[dif_pos hx]
theorem aF.UJ{E0:aE}(hE:aF P E)(h0:aF P E0)(hP:P.follows .mixedOrders=true){f:FuncId}{Q:List PD->List U->Value->List U->Prop}:aF P (E.UJ f (mY P E0 f Q)):=by
 refine⟨hE.ret,fun {F fl f' g args c vs v σ'} hF hg hgo hs hX hv=>?_⟩;simp only[aE.UJ]at hg;split at hg
 .rename_i e;subst e;simp only[yAb]at hg;subst hg;exact(a1v hgo).1.calls h0 hP hF hs hX hv
 .exact hE.bD hF hg hgo hs hX hv
structure mN (P:Program) (E:aE) (f:FuncId) (args:List PD) (σ:List U) (Rr:PD->List U->Prop) (Rp:Value->List U->Prop):Prop where
 ex:(∃p σ',mB P E 0 (.inl f) args σ p σ'/\Rr p σ')\/(∃v σ',SW P E 0 f args σ v σ'/\Rp v σ')
theorem mN.mR{f:FuncId}{fn:Func}{c:Code}{args fr:Dq}{σ:Dp}{Rr:PD->List U->Prop}{Rp:Value->List U->Prop}(hE:E f=none)(hf:P.funcs[f]?=some fn)(hb:fn.body=some c)(hfr:args++List.replicate (fn.ntmps-args.length) (.aI [])=fr)
  (h:Wp P E none c 0 fr [] σ (λr=>(∃v,r.x=.panic v/\r.ms=[]/\Rp v r.σ)\/(∃p σ',sX P 0 fn r=some (p,σ')/\Rr p σ'))):mN P E f args σ Rr Rp:=by
 subst hfr;obtain⟨⟨x,aH,ms1,σ1⟩,h1,h2⟩:=h.ex;rcases h2 with⟨v,rfl,rfl,h3⟩ | ⟨p,σ',h3,h4⟩
 .exact⟨.inr ⟨v,σ1,⟨fn,c,aH,hf,hb,h1⟩,h3⟩⟩
 .exact⟨.inl ⟨p,σ',.body hE hf hb h1 h3,h4⟩⟩
def jJ(P:Program)(E:aE)(f:FuncId)(Q:List PD->List U->PD->List U->Prop):Nat->List PD->List U->Option (PD×List U):=λfl args σ=>
 match oC P E f (λargs σ p σ'=>Q args σ p.strip σ') fl args σ with
 |some (p,σ')=>some (p.strip,σ')
 |none=>none
theorem aOt{f:FuncId}{Q:List PD->List U->PD->List U->Prop}{args:Dq}{σ σ':Dp}{p:PD}(h:jJ P E f Q 0 args σ=some (p,σ')):Q args σ p σ':=by
 unfold jJ at h;split at h
 .rename_i q τ hq;simp only[yAb,yAc]at h;obtain⟨rfl,rfl⟩:=h;unfold oC at hq;rw[yAJ rfl]at hq;exact(ZU hq).2
 .cases h
theorem a1x{f:FuncId}{Q:List PD->List U->PD->List U->Prop}{args:Dq}{σ:Dp}(h:∃p σ',mB P E 0 (.inl f) args σ p σ'/\Q args σ p.strip σ'):∃p σ',jJ P E f Q 0 args σ=some (p,σ')/\Q args σ p σ':=by
 obtain⟨p,σ',h1,h2⟩:=h;obtain⟨q,τ,h3,h4⟩:=aHb (P:=P) (E:=E) (f:=f) (Q:=λargs σ p σ'=>Q args σ p.strip σ') ⟨p,σ',h1,h2⟩;exact⟨q.strip,τ,by unfold jJ;rw[h3],h4⟩
theorem aF.a1o(hE:aF P E)(hP:P.follows .mixedOrders=true){f:FuncId}{Q:List PD->List U->PD->List U->Prop}:aF P (E.add f (jJ P E f Q)):=by
 refine⟨fun {F fl f' g' args c vs p σ'} hF hg hgo hs hX hv=>?_,hE.bD⟩;rw[aE.o3]at hg;split at hg
 .rename_i e;subst e;simp only[yAb]at hg;subst hg;unfold jJ at hgo;split at hgo
  .rename_i q τ hq;simp only[yAb,yAc]at hgo;obtain⟨rfl,rfl⟩:=hgo;obtain⟨h1,h2⟩:=(hE.aGt hP (f:=f') (Q:=λargs σ p σ'=>Q args σ p.strip σ')).ret hF aE.add_same hq hs hX hv;exact ey
  .cases hgo
 .exact fh
theorem aG.jJ{E0:aE}(hU:aG E){f:FuncId}{Q:List PD->List U->PD->List U->Prop}(hQ:∀args p,¬Q args [] p []):aG (E.add f (jJ P E0 f Q)):=
 hU.other λargs p h=>hQ args p (aOt h)
theorem mN.both{f:FuncId}{args:Dq}{σ:Dp}{Qr:List PD->List U->PD->List U->Prop}{Qp:List PD->List U->Value->List U->Prop}(h:mN P E f args σ (λp σ'=>Qr args σ p.strip σ') (Qp args σ))(hx:∀p σ' v τ,Qr args σ p σ'->Qp args σ v τ->False) :
  (∃p σ',jJ P E f Qr 0 args σ=some (p,σ')/\Qr args σ p σ')\/(jJ P E f Qr 0 args σ=none/\∃v σ',mY P E f Qp 0 args σ=some (v,σ')/\Qp args σ v σ'):=by
 rcases h.ex with h|h
 .exact .inl (a1x h)
 .obtain⟨v,σ',h3,h4⟩:=a1w h;refine .inr ⟨?_,v,σ',h3,h4⟩;cases hq:jJ P E f Qr 0 args σ with
  |none=>rfl
  |some x=>exact(hx _ _ _ _ (aOt (p:=x.1) (σ':=x.2) hq) h4).elim
end
end
section
open Go.RowKit
section
variable{P:Program}{E:aE}
def TT(P:Program)(E:aE)(f:FuncId)(x:PD)(args:List PD)(σ σ':List U):Prop:=
 ∃fn id d0 d1 ts ty0 Q7 aEe pos1 ed0 Q8 y fr r,P.funcs[f]?=some fn /\
  fn.body=some (.seq (.region id #[⟨some d0,.call { callee:=.builtin .recover,args:=#[],argTypes:=ts },ty0,aEe,ed0,none⟩,⟨some d1,.assign (.tmp d0),Q7,pos1,Q8,none⟩] false) y)/\fn.results=#[] /\
  aM (aM (args++List.replicate (fn.ntmps-args.length) (.aI [])) (some d0) x) (some d1) x=fr/\d0<(args++List.replicate (fn.ntmps-args.length) (PD.aI [])).length/\Ev P E none y 0 fr [] σ r/\(r.x=.normal\/r.x=.ret)/\r.ms=[]/\r.σ=σ'
theorem TT.calls(hE:aF P E)(hP:P.follows .mixedOrders=true){F:Fence}(hro:F.round=none){n:Nat}{f:FuncId}{x:PD}{xv:Value}{args:Dq}{vs:Ds}{c:Cx}{σ':Dp}{u u':FrameMode}(h:TT P E f x args c.σ σ')(hF:Open F P)(hs:Sr c)(hX:Xw 0 c)(hv:aK c vs args)(hx:VR c xv x)
  (hu:∀(c0:Frame) (cs:List Frame),c0.mode=u->recoverD (c0::cs)=some (xv,{ c0 with mode:=u' }::cs)\/(recoverD (c0::cs)=none/\xv=.nilIface/\u'=u)) :
  CallsDIn F n P f vs.toArray u c.w (λe u1 w'=>(∃v,e=.returned v)/\u1=u'/\∃c':Cx,c'.w=w'/\c'.σ=σ'/\Sr c'/\Nx 0 c c'):=by
 obtain⟨fn,id,d0,d1,ts,ty0,Q7,aEe,pos1,ed0,Q8,y,fr,r,hfn,hbd,hres,hfr,vF,⟨N,hN⟩,hrx,hms,oJ⟩:=h;refine callsDIn_of_wpSIn hfn hbd (hF.fn f) λc0 cs hc0=>?_
 refine wpSIn_seq (wpSIn_region ?_);have key:∀cs',({ c0 with mode:=u' }:Frame)::cs=cs'->wpOpsSIn F n P #[⟨some d0,.call { callee:=.builtin .recover,args:=#[],argTypes:=ts },ty0,aEe,ed0,none⟩,⟨some d1,.assign (.tmp d0),Q7,pos1,Q8,none⟩] (Exit.thenS (y.wpSIn F n P (bodyPostS P fn c0 cs (λe u1 w'=>(∃v,e=.returned v)/\u1=u'/\∃c':Cx,c'.w=w'/\c'.σ=σ'/\Sr c'/\Nx 0 c c'))) (bodyPostS P fn c0 cs (λe u1 w'=>(∃v,e=.returned v)/\u1=u'/\∃c':Cx,c'.w=w'/\c'.σ=σ'/\Sr c'/\Nx 0 c c'))) [1]
   (({ tmps:=vs.toArray++Array.replicate (fn.ntmps-vs.toArray.size) undef,defers:=[] }:Act).put (some d0) xv) cs' c.w:=by
  rintro cs' rfl
  have aQx:aK c (vs.toArray++Array.replicate (fn.ntmps-vs.toArray.size) undef).toList (args++List.replicate (fn.ntmps-args.length) (.aI [])):=by
   exact aj
  have eY:FR c (({ tmps:=vs.toArray++Array.replicate (fn.ntmps-vs.toArray.size) undef,defers:=[] }:Act).put (some d0) xv) (aM (args++List.replicate (fn.ntmps-args.length) (.aI [])) (some d0) x):=FR.put ⟨aQx,hs.iG⟩ hx (some d0);have hev:(({ tmps:=vs.toArray++Array.replicate (fn.ntmps-vs.toArray.size) undef,defers:=[] }:Act).put (some d0) xv).eval (.tmp d0)=xv:=by
   have hl:d0<(vs.toArray++Array.replicate (fn.ntmps-vs.toArray.size) undef).size:=by
    have:=aQx.1;rw[yCf]at this;rw[this];exact vF
   simp only[Act.eval,Act.put];rw[yCB,Array.getElem?_setIfInBounds_self_of_lt hl];rfl
  have qQ:=eY.put hx (some d1);rw[hfr]at qQ;simp only[wpOpsSIn,yE,yBT,yBD];refine⟨λg _=>hF.fn g,?_⟩;rw[yAJ (show Region.wanted _ _=true from rfl)];have vG:(execOp (({ tmps:=vs.toArray++Array.replicate (fn.ntmps-vs.toArray.size) undef,defers:=[] }:Act).put (some d0) xv).eval ⟨some d1,.assign (.tmp d0),Q7,pos1,Q8,none⟩).run P c.w=.ok (.value xv) c.w:=by
   simp only[execOp,hev];rfl
  rw[vG];simp only[Exit.thenS];refine wpSIn_of_wpIn hro (nR.wpIn (Y5 hE hP N (B:=[]) hF (hN N (yAk _)) hs hX qQ rfl (hro:EW F c none) n _ λc1 a1 e1 hs1 gQ a4t jI=>?_));have hd:a1.defers=[]:=by
   rw[hms]at jI
   revert jI
   exact jl
  have a4u:=a4t.all (by rcases hrx with e|e<;>rw[e]<;>intro v h<;>cases h);obtain⟨rv,hrs,_⟩:=aEY (P:=P) hs1 a4u (fn:=fn) (qs:=[]) (by rw[hres];rfl);rcases hrx with e|e<;>rw[e]<;>exact⟨hd,u',rfl,_,hrs,⟨_,rfl⟩,rfl,c1,rfl,e1.trans oJ,hs1,gQ⟩
 have h0:∀a:Act,(execOp a.eval ⟨some d0,.call { callee:=.builtin .recover,args:=#[],argTypes:=ts },ty0,aEe,ed0,none⟩).run P c.w=.ok .recover c.w:=λa=>by
  simp only[execOp,resolve,invoke,yAW,yBb,yBa];rfl
 show wpOpsSIn F n P _ _ [0,1] _ (c0::cs) c.w
 rw[wpOpsSIn];simp only[yE,yBD];refine⟨λg _=>hF.fn g,?_⟩;rw[yAJ (show Region.wanted _ _=true from rfl),h0];simp only;rcases hu c0 cs hc0 with e | ⟨e,rfl,rfl⟩
 .rw[e];exact key _ rfl
 .rw[e];exact key _ (by rw[<-hc0])
theorem VR.a4v{c:Cx}{p:PD}{v:Value}(h:p.scalar=some v):VR c v p:=by
 cases p<;>simp[PD.scalar]at h<;>subst h
 .exact .bool _
 .exact .int _ _
 .exact .str _
theorem aK.aQy{c:Cx}:∀ {ps:Dq} {vs:Ds},scalars ps=some vs->aK c vs ps/\∀v∈vs,v.oneCell'=true
 | [],vs,h=>by
   simp only[scalars,yAb]at h;subst h;exact⟨⟨rfl,λi v d h=>Aa⟩,yo⟩
 |p::ps,vs,h=>by
  simp only[scalars]at h;split at h
  .rename_i v us h1 h2;simp only[yAb]at h;subst h;obtain⟨k1,k2⟩:=aK.aQy (c:=c) h2;refine⟨⟨by simp[k1.1],λi u d hu hd=>?_⟩,?_⟩
   .cases i with
    |zero=>simp at hu hd;subst hu hd;exact VR.a4v h1
    |succ i=>exact k1.2 i u d Am Av
   .intro u hu;rcases yAS.1 hu with rfl|hu
    .cases p<;>simp[PD.scalar]at h1<;>subst h1<;>rfl
    .exact k2 u hu
  .cases h
theorem VR.a4w{c:Cx}{p:PD}{v:Value}(h:p.fail=some v):VR c v p:=by
 unfold PD.fail at h;split at h
 .rename_i t cs;split at h
  .rename_i vs hvs;simp only[yAb]at h;subst h;obtain⟨k1,k2⟩:=aK.aQy (c:=c) hvs;exact .iface t _ _ (.agg vs cs k1.1 k2 k1.2)
  .cases h
 .cases h
def aBu(l:List ResultVar):Bool:=l.all λr=>match r with
 |.tmp t=>decide (t<7)
 |.cell a _=>decide (a<7)
theorem aQz{fr xX:Dq}{σ:Dp}(h:∀i,i<7->xX[i]?=fr[i]?):∀ {l:List ResultVar},aBu l=true->pJ P xX σ l=pJ P fr σ l
 | [],_=>rfl
 |r::l,hl=>by
  simp only[aBu,yBK,yAr]at hl;have e:EU P xX σ r=EU P fr σ r:=by
   cases r with
   |tmp t=>
    have:=yDq hl.1;simp only[EU,yAA,h t this]
   |cell a t=>
    have:=yDq hl.1;simp only[EU,yAA,h a this]
  simp only[pJ,e,aQz h (l:=l) hl.2]
def N0(P:Program)(E:aE)(f:FuncId)(args:List PD)(σ:List U)(p:PD)(σ3:List U):Prop:=
 ∃fn x id fc ags ts ty pos ed y aH σ1 ps r z qs,P.funcs[f]?=some fn /\
  fn.body=some (.seq x (.seq (.region id #[⟨none,.defer { callee:=.value (.func fc),args:=ags,argTypes:=ts },ty,pos,ed,none⟩] false) y)) /\
  Ev P E none x 0 (args++List.replicate (fn.ntmps-args.length) (.aI [])) [] σ ⟨.normal,aH,[],σ1⟩/\jQ aH ags.toList=some ps/\Ev P E none y 0 aH [] σ1 r/\r.ms=[] /\
  (((r.x=.normal\/r.x=.ret)/\z=.bG .nilIface)\/∃v,r.x=.panic v/\z.fail=some v)/\TT P E fc z ps r.σ σ3/\aBu fn.results.toList=true/\pJ P r.fr σ3 fn.results.toList=some qs/\p=OP qs
theorem N0.calls(hE:aF P E)(hP:P.follows .mixedOrders=true){F:Fence}{f:FuncId}{args:Dq}{c:Cx}{vs:Ds}{p:PD}{σ3:Dp}(h:N0 P E f args c.σ p σ3)(hF:Open F P)(hs:Sr c)(hX:Xw 0 c)(hv:aK c vs args) :
  (∃fn,P.funcs[f]?=some fn/\fn.body.isSome=true)/\∀m,CallsIn F m P f vs.toArray c.w (MJ 0 c p σ3):=by
 obtain⟨fn,x,id,fc,ags,ts,ty,pos,ed,y,aH,σ1,ps,r,z,qs,hfn,hbd,⟨N1,hx⟩,hps,⟨N2,hy⟩,hms,hz,hc,hlow,hqs,rfl⟩:=h;refine⟨⟨fn,hfn,by simp[hbd]⟩,λm=>?_⟩;have vH:Open { F with round:=none } P:=⟨hF.fn,hF.depth,hF.name,hF.alive⟩;have key:CallsIn { F with round:=none } m P f vs.toArray c.w (MJ 0 c (OP qs) σ3):=by
  refine yDN hfn hbd (hF.fn f) (wpIn_seq ?_);have hfr:aK c (vs.toArray++Array.replicate (fn.ntmps-vs.toArray.size) undef).toList (args++List.replicate (fn.ntmps-args.length) (.aI [])):=by
   exact aj
  refine nR.wpIn (Y5 hE hP N1 (a:={ tmps:=_,defers:=[] }) (B:=[]) vH (hx N1 (yAk _)) hs hX ⟨hfr,hs.iG⟩ rfl (rfl:EW { F with round:=none } c none) m _ λc1 a1 e1 hs1 gQ eY jI=>?_);have eY:=eY.all (λ_ h=>zk);simp only at eY e1;have pM:a1.defers=[]:=by
   revert jI
   exact jl
  have a4x:=pL eY hps;show(Code.seq _ y).wpIn _ m P _ a1 c1.w
  refine wpIn_seq (wpIn_region ?_);obtain⟨dargs,hdargs⟩:∃d:Array Value,ags.map a1.eval=d:=⟨_,rfl⟩;have hda:dargs=(ags.toList.map a1.eval).toArray:=by rw[<-hdargs];apply yBR;simp
  show wpOpsIn _ m P _ _ [0] a1 c1.w
  simp only[wpOpsIn,yE,yBD];rw[yAJ (show Region.wanted _ _=true from rfl)];refine⟨λg _=>hF.fn g,?_⟩;have hsem:((Oper.semAt { F with round:=none }.round a1.eval ⟨none,.defer { callee:=.value (.func fc),args:=ags,argTypes:=ts },ty,pos,ed,none⟩:Sem Next).run P c1.w)=.ok (.defer { target:=.fn (.func fc) #[],args:=dargs }) c1.w:=by
   rw[Oper.semAt_none];simp only[execOp,resolve,Act.eval,yAW,yBb,yBa,Deferred.ofValue,hdargs];simp
  rw[hsem];simp only[Oper.uponIn,Act.put,Exit.then];have hy2:=hy N2 (yAk _);rw[<-e1]at hy2;refine nR.wpIn (Y5 hE hP N2 (rd:=none) (ms:=[]) (a:={ a1 with defers:={ target:=.fn (.func fc) #[],args:=dargs }::a1.defers }) (B:=[{ target:=.fn (.func fc) #[],args:=dargs }]) vH hy2 hs1 (hX.next hs gQ) ⟨eY.1,eY.2⟩ (by show _::a1.defers=_;rw[pM]) (rfl:EW { F with round:=none } c1 none) m _ λc2 a2 e2 hs2 eP qQ hm2=>?_);have kM:a2.defers=[{ target:=.fn (.func fc) #[],args:=dargs }]:=by
   rw[hms]at hm2
   revert hm2
   cases a2.defers with
   |nil=>intro h;exact h
   |cons d ds=>intro h;exact h
  obtain⟨⟨xX,qQ,hlo⟩,_⟩:=qQ;have hinv:∀w,(invoke (.fn (.func fc) #[]) dargs).run P w=.ok (.enter fc dargs) w:=by
   intro w;obtain⟨fnc,_,_,_,_,_,_,_,_,_,_,_,_,_,k1,k2,_⟩:=hc;have hb':fnc.body.isNone=false:=by rw[k2];rfl
   have hn:=hF.name fc fnc k1;simp only[invoke,callFunc,yAW,run_program,k1,hn,hb',yAx,yAO,yBb,yBa];simp
  have leave:∀(u u':FrameMode) (zv:Value),u≠.run->VR c2 zv z->settle u'=.returning->(∀(c0:Frame) (cs:List Frame),c0.mode=u->recoverD (c0::cs)=some (zv,{ c0 with mode:=u' }::cs)\/(recoverD (c0::cs)=none/\zv=.nilIface/\u'=u)) ->
    LeavesInM { F with round:=none } m P fn a2.tmps (MJ 0 c (OP qs) σ3) a2.defers u c2.w:=by
   intro u u' zv hu hzv hset hrec;rw[kM];refine⟨hu,.inr ⟨vH.asks,.func fc,#[],fc,dargs,rfl,hinv _,λg _=>hF.fn g,?_⟩⟩;have hc2:TT P E fc z ps c2.σ σ3:=by rw[e2];exact hc
   have:=TT.calls hE hP (n:=m-1) (F:={ F with round:=none }) rfl hc2 vH hs2 ((hX.next hs gQ).next hs1 eP) ((a4x.mono eP)) hzv hrec;rw[<-hda]at this;refine CallsDIn.mono this λe u1 w' he=>?_
   obtain⟨⟨v,rfl⟩,hu1,c3,rfl,e3,hs3,o5⟩:=he;show LeavesInM _ m P fn a2.tmps _ [] (settle u1) c3.w
   rw[hu1,hset];have hq3:pJ P xX c3.σ fn.results.toList=some qs:=by rw[aQz hlo hlow,e3];exact hqs
   obtain⟨v,rv,hvv⟩:=aEY (P:=P) hs3 (qQ.mono o5) hq3;refine⟨v,rv,?_⟩;have:=Leaves.of hs3 (gQ.trans (eP.trans o5)) hvv;rw[e3]at this;exact this
  rcases hz with⟨hx2,rfl⟩ | ⟨v,hx2,M6⟩
  .rcases hx2 with e|e<;>rw[e] <;>
   exact leave .returning .returning .nilIface yo (.bG _ rfl) rfl (λc0 cs h0=>.inr ⟨by simp[recoverD,h0],rfl,rfl⟩)
  .rw[hx2];exact leave (.panicking [{ v,recovered:=false }]) (.panicking [{ v,recovered:=true }]) v yo (VR.a4w M6) rfl (λc0 cs h0=>.inl (by simp[recoverD,h0]))
 exact⟨key.1,key.2⟩
def ND(P:Program)(E:aE)(f:FuncId)(Q:List PD->List U->PD->List U->Prop):Nat->List PD->List U->Option (PD×List U):=by
 classical
 exact λfl args σ=>if h:fl=0/\∃r:PD×List U,N0 P E f args σ r.1 r.2/\Q args σ r.1.strip r.2 then some (h.2.choose.1.strip,h.2.choose.2)else none
theorem aYc{f:FuncId}{Q:List PD->List U->PD->List U->Prop}{args:Dq}{σ σ':Dp}{p:PD}(h:N0 P E f args σ p σ')(k:Q args σ p.strip σ'):∃p σ',ND P E f Q 0 args σ=some (p,σ')/\Q args σ p σ':=by
 have hx:0=0/\∃r:PD×List U,N0 P E f args σ r.1 r.2/\Q args σ r.1.strip r.2:=⟨rfl,(p,σ'),h,k⟩;refine⟨hx.2.choose.1.strip,hx.2.choose.2,?_,hx.2.choose_spec.2⟩;unfold ND;rw[dif_pos hx]
theorem aF.aMQ(hE:aF P E)(hP:P.follows .mixedOrders=true){f:FuncId}{Q:List PD->List U->PD->List U->Prop}:aF P (E.add f (ND P E f Q)):=by
 refine⟨fun {F fl f' g' args c vs p σ'} hF hg hgo hs hX hv=>?_,hE.bD⟩;rw[aE.o3]at hg;split at hg
 .rename_i e;subst e;simp only[yAb]at hg;subst hg;unfold ND at hgo;split at hgo
  .rename_i hx;simp only[yAb,yAc]at hgo;obtain⟨rfl,rfl⟩:=hgo;obtain⟨hfl,hx2⟩:=hx;subst hfl;obtain⟨h1,h2⟩:=hx2.choose_spec.1.calls hE hP hF hs hX hv;exact ey
  .cases hgo
 .exact fh
end
end
end Go.Kz
end
