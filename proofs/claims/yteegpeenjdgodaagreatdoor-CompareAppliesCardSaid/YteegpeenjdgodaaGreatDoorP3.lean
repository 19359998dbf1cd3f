/- Steps of the proof. -/
import Derived.Test.YteegpeenjdgodaaGreatDoorP2
import Derived.Below
import Derived.OpenShut
import Derived.FnData
import Derived.MakeChecks
import Derived.ProofKit
import Derived.LaidMore
import Derived.Stop.Joined
import Derived.ChangeArms
import Derived.DataReads
import Derived.Test.YteegpeenjdgodaaGreatDoorProg
import Derived.KernelRfl
import Derived.Handed
import Derived.SizedLaws
import Derived.Lib.Overlaps
import Derived.Lib.AppendZerosOnto
set_option linter.all false
set_option maxHeartbeats 40000000
set_option maxRecDepth 100000
open Go.Proofs.Tryz
noncomputable section
namespace Go.Kz
section
open Go.RowKit
def Cx.start(w:World):Cx:={ w:=w,ρ:=λ_=>undef,σ:=[],D:=λ_=>False,X:=λ_=>True }
theorem Sr.start{w:World}(hg:Gl (.start w)):Sr (.start w) where
 box:=λ_ _ h=>h.elim
 own:=λ_ _ _ _ h=>h.elim
 row:=λ_ _ _ _ _ h=>h.elim
 map:=λ_ _ h=>h.elim
 mark:=λ_ h=>h.elim
 loop:=λ_ _ _ _ _ _ h=>h.elim
 inj:=λ_ _ _ h=>h.elim
 lt:=λ_ _ h=>h.elim
 bJ:=λ_ h=>h.elim
 fresh:=λ_ _=>trivial
 kG:=hg
theorem aBy{w:World}(a:Addr):(Cx.start w).av a:=⟨trivial,λ_ _ h=>h.elim⟩
theorem aId{P:Program}(hN:∀(f:FuncId) fn,P.funcs[f]?=some fn->(fn.name== "runtime.NumGoroutine")=false):Open Fence.wide P:=⟨λ_=>trivial,rfl,hN,rfl⟩
theorem aIe{P:Program}{E:aE}(hE:aF P E)(hP:P.follows .mixedOrders=true)(hN:∀(f:FuncId) fn,P.funcs[f]?=some fn->(fn.name== "runtime.NumGoroutine")=false)
  {n:Nat} {f:FuncId} {args:Jq} {vs:Js} {w:World} {p:PD} {σ':Jp} (h:fA P E n 0 (.inl f) args []=some (p,σ')) (hg:Gl (.start w)) (hv:aY (.start w) vs args) :
  Calls P f vs.toArray w λe w'=>∃v c',e=.returned v/\c'.w=w'/\VR c' v p/\Nx 0 (.start w) c'/\Below w.heap.size w w':=by
 have:=((C5 hE hP (aId hN) n).fn (c:=.start w) (fl:=0) h (.start hg) (λ_ _ h=>h.elim) hv).2 0;refine yBC (callsIn_wide.1 this) λe w' he=>?_
 cases e with
 |returned v=>
  obtain⟨c',e1,_,_,nx,hvv,_⟩:=he;refine⟨v,c',rfl,e1,hvv,nx,?_⟩;subst e1;exact⟨nx.os,nx.tape,nx.output,nx.size,λk hk=>nx.frame k hk (λ_ h=>h.elim)⟩
 |panicked ch=>exact he.elim
 |outgrown=>exact he.elim
theorem aH1{P:Program}{E:aE}(hE:aF P E)(hP:P.follows .mixedOrders=true)(hN:∀(f:FuncId) fn,P.funcs[f]?=some fn->(fn.name== "runtime.NumGoroutine")=false)
  {n:Nat} {f:FuncId} {args:Jq} {vs:Js} {w:World} {b:Bool} {σ':Jp} (h:fA P E n 0 (.inl f) args []=some (.bool b,σ')) (hg:Gl (.start w)) (hv:aY (.start w) vs args) :
  Calls P f vs.toArray w λe w'=>e=.returned (.bool b)/\Below w.heap.size w w':=by
 refine yBC (aIe hE hP hN h hg hv) λe w' ⟨v,c',h1,h2,h3,h4,h5⟩=>?_
 rw[h3.BC]at h1;exact⟨h1,h5⟩
end
section
open Go.RowKit
end
section
section
variable{P:Program}{E:aE}{rd:Option Nat}{fl:Nat}{fr:Jq}{ms:List Nat}{σ:Jp}{r:PO}
def Ev(P:Program)(E:aE)(rd:Option Nat)(c:Code)(fl:Nat)(fr:List PD)(ms:List Nat)(σ:List aA)(r:PO):Prop:=∃N,∀n,N<=n->jU P E n rd c fl fr ms σ=some r
def nQ(P:Program)(E:aE)(fl:Nat)(f:FuncId ⊕ Nat)(args:List PD)(σ:List aA)(p:PD)(σ':List aA):Prop:=∃N,∀n,N<=n->fA P E n fl f args σ=some (p,σ')
theorem Ev.step{c:Code}{N:Nat}(h:∀n,N<=n->jU P E (n+1) rd c fl fr ms σ=some r):Ev P E rd c fl fr ms σ r:=
 ⟨N+1,λn hn=>by obtain⟨m,rfl⟩:∃m,n=m+1:=⟨n-1,Cj⟩;exact h m Cj⟩
theorem Ev.skip:Ev P E rd .skip fl fr ms σ ⟨.normal,fr,ms,σ⟩:=.step (N:=0) λ_ _=>rfl
theorem Ev.ret:Ev P E rd .ret fl fr ms σ ⟨.ret,fr,ms,σ⟩:=.step (N:=0) λ_ _=>rfl
theorem Ev.exit{id:Nat}:Ev P E rd (.exit id) fl fr ms σ ⟨.exit id,fr,ms,σ⟩:=.step (N:=0) λ_ _=>rfl
theorem Ev.seq{x y:Code}{aX:Jq}{ms1:List Nat}{σ1:Jp}(h:Ev P E rd x fl fr ms σ ⟨.normal,aX,ms1,σ1⟩)(k:Ev P E rd y fl aX ms1 σ1 r):Ev P E rd (.seq x y) fl fr ms σ r:=by
 exact om
theorem Ev.aBG{x y:Code}(h:Ev P E rd x fl fr ms σ r)(hr:r.x≠.normal):Ev P E rd (.seq x y) fl fr ms σ r:=by
 exact ng
theorem Ev.cond{g:Operand}{x y:Code}{b:Bool}(hg:bD fr g=some (.bool b))(h:Ev P E rd (if b then x else y) fl fr ms σ r):Ev P E rd (.cond g x y) fl fr ms σ r:=by
 obtain⟨N,h⟩:=h;exact .step (N:=N) λn hn=>by
  simp only[jU,hg];cases b<;>exact h n hn
theorem Ev.block{id:Nat}{b:Code}{aX:Jq}{ms1:List Nat}{σ1:Jp}{k:Nat}(h:Ev P E rd b fl fr ms σ ⟨.exit k,aX,ms1,σ1⟩):Ev P E rd (.block id b) fl fr ms σ ⟨if k=id then .normal else .exit k,aX,ms1,σ1⟩:=by
 obtain⟨N,h⟩:=h;exact .step (N:=N) λn hn=>by simp only[jU,h n hn]
theorem Ev.aBH{id:Nat}{b:Code}(h:Ev P E rd b fl fr ms σ r)(hr:∀k,r.x≠.exit k):Ev P E rd (.block id b) fl fr ms σ r:=by
 obtain⟨N,h⟩:=h;exact .step (N:=N) λn hn=>by
  simp only[jU,h n hn];obtain⟨x,a,b,c⟩:=r;cases x<;>first|exact absurd rfl (hr _)|rfl
theorem Ev.loop{b:Code}{aX:Jq}{ms1:List Nat}{σ1:Jp}(h:Ev P E rd b fl fr ms σ ⟨.normal,aX,ms1,σ1⟩)(k:Ev P E rd (.loop b) fl aX ms1 σ1 r):Ev P E rd (.loop b) fl fr ms σ r:=by
 exact om
theorem Ev.aBI{b:Code}(h:Ev P E rd b fl fr ms σ r)(hr:r.x≠.normal):Ev P E rd (.loop b) fl fr ms σ r:=by
 exact ng
theorem Ev.region{id:Nat}{ops:Ju}{aX:Jq}{σ1:Jp}{N:Nat}(h:∀n,N<=n->fI P (fA P E n) fl ops ops.toList fr σ=some (aX,σ1)):Ev P E rd (.region id ops false) fl fr ms σ ⟨.normal,aX,ms,σ1⟩:=
 .step (N:=N) λn hn=>by
  have:=h n hn;unfold fA at this;simp only[jU,DA,this]
theorem Ev.K1{id:Nat}{ops:Ju}{aX:Jq}{σ1:Jp}{N:Nat}(h:∀n,N<=n->mU P (fA P E n) fl ops fr σ=some (aX,σ1)):Ev P E rd (.region id ops true) fl fr ms σ ⟨.normal,aX,ms,σ1⟩:=
 .step (N:=N) λn hn=>by
  have:=h n hn;unfold fA at this;simp only[jU,this]
theorem Ev.draw{id:Nat}{ops:Ju}{aX:Jq}{σ1:Jp}{N:Nat}(h:∀n,N<=n->nS P (fA P E n) fl ops fr σ=some (aX,σ1)):Ev P E rd (.region id ops true) fl fr ms σ ⟨.normal,aX,ms,σ1⟩:=
 .K1 (N:=N) λn hn=>by unfold mU;rw[h n hn]
theorem nQ.body{f:FuncId}{fn:Func}{c:Code}{args:Jq}{p:PD}{σ':Jp}(hE:E f=none)(hf:P.funcs[f]?=some fn)(hb:fn.body=some c)
  (h:Ev P E none c fl (args++List.replicate (fn.ntmps-args.length) (.aH [])) [] σ r) (hr:bQ P fl fn r=some (p,σ')):nQ P E fl (.inl f) args σ p σ':=by
 obtain⟨N,h⟩:=h;exact⟨N,λn hn=>by simp only[fA,tN,hE,FI,hf,hb,h n hn,hr]⟩
end
def aE.add(E:aE)(f:FuncId)(g:Nat->List PD->List aA->Option (PD×List aA)):aE:=λf'=>if f'=f then some g else E f'
theorem aF.add{P:Program}{E:aE}(hE:aF P E)(hP:P.follows .mixedOrders=true){f:FuncId}{g:Jk}
  (h:∀fl args σ p σ',g fl args σ=some (p,σ')->nQ P E fl (.inl f) args σ p σ'):aF P (E.add f g):=by
 intro F fl f' g' args c vs p σ' hF hg hgo hs hX hv;unfold aE.add at hg;split at hg
 .rename_i e;subst e;simp only[yAb]at hg;subst hg;obtain⟨N,hN⟩:=h fl args c.σ p σ' hgo;exact(C5 hE hP hF N).fn (hN N (yAk _)) hs hX hv
 .exact je
end
section
def yX(ops:Array Oper)(i:Nat):Bool:=kT ops.toList (cP ops.toList []) i
def oT(P:Program)(call:cY)(fl:Nat)(ops:Array Oper):List (Bool×Oper)->List PD->List aA->Option (List PD×List aA)
 | [],fr,σ=>some (fr,σ)
 |(free,o)::rest,fr,σ=>
  if Region.wanted o (cH ops fr)then
   match free with
   |true=>match cZ P call fl fr σ o.op with
    |some (p,σ')=>oT P call fl ops rest (bC fr o.dst p) σ'
    |none=>none
   |false=>match cZ P call (max fl σ.length) fr σ o.op with
    |some (p,σ')=>oT P call fl ops rest (bC fr o.dst p) (σ++σ'.drop σ.length)
    |none=>none
  else oT P call fl ops rest (bC fr o.dst (.aH [])) σ
def flags(ops:Array Oper)(i:Nat):List Oper->List (Bool×Oper)
 | []=>[]
 |o::r=>(!dR o.op||yX ops i,o)::flags ops (i+1) r
def HM(ops:Array Oper):Bool:=
 wI ops (cP ops.toList [])&&ops.toList.all (λo=>!dA o.op) &&
 (List.range ops.size).all λk=>!eR fX ops.toList k||(List.range ops.size).all λi=>!eR eJ ops.toList i||!loose (cP ops.toList []) i k
section
variable{P:Program}{call:cY}{fl:Nat}{ops:Ju}
theorem aBO{fr:Jq}{σ:Jp}{op:Op}(h:fB op=true):dE P fl fr σ op=none:=by
 cases op<;>first|rfl|(simp[fB]at h;done)|(rename_i s d x;simp only[fB,yBv]at h;simp only[dE,h,yAx,yAN];done)|skip
 rename_i c;obtain⟨callee,args,ts⟩:=c;cases callee with
 |value f=>simp[fB]at h
 |invoke r m=>simp[fB]at h
 |builtin b=>cases b<;>first|rfl|(simp[fB]at h)
theorem PF{k:Nat}{free:Bool}{fr:Jq}{σ:Jp}{op:Op}(hs:(fB op||eJ op||dA op||mS op||eS op)=true)(ha:dA op=false) :
  iA P call fl free k fr σ op=(match (!dR op||free)with
   |true=>cZ P call fl fr σ op
   |false=>match cZ P call (max fl σ.length) fr σ op with
    |some (p,σ')=>some (p,σ++σ'.drop σ.length)
    |none=>none):=by
 unfold iA
 by_cases hA:fB op=true
 .obtain⟨hpc,_,hW,_⟩:=aBP (fr:=fr) hA;have hM:dR op=false:=by simp[eS]at hW;exact hW.2
  rw[yAJ hA,hM];simp only[yCu,yDr];unfold cZ pop;rw[hpc];simp only;cases hp:eP P fr op with
  |some p=>rfl
  |none=>
   simp only;rw[aBO hA]
 .simp only[yCw]at hA;rw[hA,ha];simp only[yAx,yAN]
  by_cases hM:dR op=true
  .rw[hM];cases free with
   |true=>simp
   |false=>
    simp only[yCu,yCr,yAK,yBQ,yDI];cases cZ P call (max fl σ.length) fr σ op<;>rfl
  .simp only[yCw]at hM;rw[hM];simp only[yAY,yAx,yAN,yCu,yDr];have h3:eJ op=true\/mS op=true\/fX op=true:=by
    simp only[hA,ha,eS,hM,yCa,yDI,yBu]at hs;rcases hs with(h|h)|h
    .exact .inl h
    .exact .inr (.inl h)
    .exact .inr (.inr h)
   obtain⟨hv,hp,_⟩:=K0 (P:=P) (fr:=fr) h3;unfold cZ pop;rw[hp,hv]
theorem aBD(h:HM ops=true)(fr:List PD)(σ:List aA):nS P call fl ops fr σ=oT P call fl ops (flags ops 0 ops.toList) fr σ:=by
 simp only[HM,yAr]at h;obtain⟨⟨hreg,hall⟩,hfeet⟩:=h;have hr:=BE hreg;have hna:∀(l:List Oper),l.all (λo=>!dA o.op)=true->mT P l=some []:=by
  intro l
  induction l with
  |nil=>intro _;rfl
  |cons o l ih=>
   intro hl;simp only[yCh,yAr,yBv]at hl;unfold mT;split
   .rename_i t ht;rw[ht]at hl;simp[dA]at hl
   .exact ih hl.2
 have key:∀(l:List Oper) (i k:Nat) (fr:List PD) (σ:List aA),ops.toList.drop i=l ->
   (match fE P call fl ops (cP ops.toList []) i k l fr σ with|some (_,fr',σ')=>some (fr',σ')|none=>none)=oT P call fl ops (flags ops i l) fr σ:=by
  intro l
  induction l with
  |nil=>intro i k fr σ _;rfl
  |cons o rest ih=>
   intro i k fr σ hdrop;have ho:ops[i]?=some o:=by
    exact Ar
   have y9:ops.toList.drop (i+1)=rest:=by rw[<-yBD,hdrop];rfl
   have hal:dA o.op=false:=by
    have:=yAn.1 hall o (yCg.2 (yDn ho));exact cw
   simp only[fE,flags,oT];cases hw:Region.wanted o (cH ops fr)with
   |true=>
    simp only[yAK];rw[PF (hr.shape i o ho) hal];simp only[yX];cases(!dR o.op||kT ops.toList (cP ops.toList []) i)with
    |true=>
     simp only;cases hp:cZ P call fl fr σ o.op with
     |none=>rfl
     |some q=>
      obtain⟨p,σ'⟩:=q;simp only;rw[<-ih (i+1) (if dA o.op=true then k+1 else k) (bC fr o.dst p) σ' y9];cases fE P call fl ops (cP ops.toList []) (i+1) (if dA o.op=true then k+1 else k) rest (bC fr o.dst p) σ'<;>rfl
    |false=>
     simp only;cases hp:cZ P call (max fl σ.length) fr σ o.op with
     |none=>rfl
     |some q=>
      obtain⟨p,σ'⟩:=q;simp only;rw[<-ih (i+1) (if dA o.op=true then k+1 else k) (bC fr o.dst p) _ y9];cases fE P call fl ops (cP ops.toList []) (i+1) (if dA o.op=true then k+1 else k) rest (bC fr o.dst p) (σ++σ'.drop σ.length)<;>rfl
   |false=>
    simp only[yAx,yAN];rw[<-ih (i+1) (if dA o.op=true then k+1 else k) (bC fr o.dst (.aH [])) σ y9];cases fE P call fl ops (cP ops.toList []) (i+1) (if dA o.op=true then k+1 else k) rest (bC fr o.dst (.aH [])) σ<;>rfl
 unfold nS;simp only[hreg,yAK,hna _ hall,yAl];rw[<-key ops.toList 0 σ.length fr σ Ck];split
 .rename_i tr fr' σ' hops;have hfo:pI ops.toList (cP ops.toList []) tr=true:=by
   simp only[pI,yAn,yAS];simp only[yAn,yAS]at hfeet;intro k hk;have h1:=hfeet k Im;cases hs:eR fX ops.toList k with
   |false=>simp
   |true=>
    rw[hs]at h1;simp only[yBQ,yCa,yAn,yAS]at h1 ⊢;intro i hi;have h2:=h1 i Ia;simp only[yBu]at h2 ⊢;exact .inl h2
  rw[hfo,hops];rfl
 .rename_i hops;rw[hops]
end
end
def Cx.bare(c:Cx):Cx:={ w:=c.w,ρ:=λ_=>undef,σ:=[],D:=λ_=>False,X:=c.av }
theorem aBM{c:Cx}(hs:Sr c){a:Addr}(h:c.w.heap.size<=a.block):c.av a:=by
 refine⟨hs.fresh a h,λid o hd ho=>?_⟩;have key:∀b,bE (c.ρ id)=some b->a.block≠b:=λb hb e=>by
  have:=hs.lt id b hd hb;omega
 cases o with
 |none=>trivial
 |box p=>exact key
 |own e size n=>intro b hb e;exact absurd e (key b hb)
 |row e size ver ds=>exact key
 |map es=>trivial
 |mark=>trivial
 |loop st fr ps asg bd=>trivial
theorem UK{c:Cx}(a:Addr):c.bare.av a↔c.av a:=⟨λh=>h.1,λh=>⟨h,λ_ _ hd=>hd.elim⟩⟩
theorem aBN{g:Nat}{ds:Jq}(h:AT g=some ds):PD.fW ds=true:=by
 unfold AT at h;split at h
 .simp only[yAb]at h;subst h;rw[PD.tO];simp only[yAn,yAw]
  rintro x ⟨y,_,rfl⟩
  simp[PD.bY]
 .exact ak
theorem Sr.bare{c:Cx}(hs:Sr c):Sr c.bare where
 box:=λ_ _ h=>h.elim
 own:=λ_ _ _ _ h=>h.elim
 row:=λ_ _ _ _ _ h=>h.elim
 map:=λ_ _ h=>h.elim
 mark:=λ_ h=>h.elim
 loop:=λ_ _ _ _ _ _ h=>h.elim
 inj:=λ_ _ _ h=>h.elim
 lt:=λ_ _ h=>h.elim
 bJ:=λ_ h=>h.elim
 fresh:=λ_ h=>aBM hs h
 kG:=⟨λg ds e=>(hs.kG.1 g ds e).free (λa v h1 h2=>⟨(UK a).2 h1,h2⟩) (by simpa [PD.bY]using aBN e),λg hh=>⟨(hs.kG.2 g hh).1,λ_ h=>h.elim⟩⟩
theorem aF.AV{P:Program}{E:aE}(hE:aF P E)(hP:P.follows .mixedOrders=true){f:FuncId}{g:List PD->Option PD}
  (h:∀args p,g args=some p->∃p1 σ1,nQ P E 0 (.inl f) (args.map PD.strip) [] p1 σ1/\p1.strip=p/\PD.fW (args.map PD.strip)=true/\p.bY=true) :
  aF P (E.add f (λ_ args σ=>match g args with|some p=>some (p,σ)|none=>none)):=by
 intro F fl f' g' args c vs p σ' hF hg hgo hs hX hv;unfold aE.add at hg;split at hg
 .rename_i e;subst e;simp only[yAb]at hg;subst hg;cases hga:g args with
  |none=>simp only[hga]at hgo;cases hgo
  |some q=>
   simp only[hga,yAb,yAc]at hgo;obtain⟨rfl,rfl⟩:=hgo;obtain⟨p1,σ1,⟨N,hN⟩,e1,e2,e3⟩:=h args q hga;have jL:aY c.bare vs (args.map PD.strip):=hv.strip.free (λa v h1 h2=>⟨(UK a).2 h1,h2⟩) e2;have:=(C5 hE hP hF N).fn (c:=c.bare) (hN N (yAk _)) hs.bare (λ_ _ h=>h.elim) jL;refine⟨this.1,λm=>yCE (this.2 m) λe w' he=>?_⟩;cases e with
   |returned v=>
    obtain⟨c1,rfl,rfl,hs1,nx,hvv,_⟩:=he;have hgr:c.w.grownBy c1.w none:=⟨nx.os,nx.tape,nx.output,nx.size,λk hk _=>nx.frame k hk (λ_ h=>h.elim)⟩;refine⟨c.at c1.w,rfl,rfl,hs.grow hgr,Nx.grow hs hgr,?_,λ_ h=>.inl h⟩;have hp:=hvv.strip;rw[e1]at hp;have hav:∀a,c1.av a->(c.at c1.w).av a:=λa h1=>by
     have h3:c1.X a:=h1.1;rw[nx.X]at h3;exact h3
    exact VR.free (c:=c1) (c':=c.at c1.w) (λa _ h1 h2=>⟨hav a h1,h2⟩) hp e3
   |panicked ch=>exact he.elim
   |outgrown=>exact he.elim
 .exact je
section
structure Em (α:Type) where
 aB:α->PD
 inj:∀ {x y},aB x=aB y->x=y
 str:∀x,(aB x).strip=aB x
 eO:∀x,(aB x).bY=true
structure bV (α:Type) where
 cells:α->Jq
 len:Nat
 hlen:∀x,(cells x).length=len
 inj:∀ {x y},cells x=cells y->x=y
 str:∀x,(cells x).map PD.strip=cells x
 eO:∀x,(cells x).all PD.bY=true
section
variable{α β γ δ:Type}
open Classical in
def Em.dec(e:Em α)(p:PD):Option α:=if h:∃x,p.strip=e.aB x then some h.choose else none
theorem Em.cT{e:Em α}{p:PD}{x:α}(h:p.strip=e.aB x):e.dec p=some x:=by
 have hx:∃x,p.strip=e.aB x:=⟨x,h⟩;unfold Em.dec;rw[dif_pos hx];exact yAL some (e.inj (hx.choose_spec.symm.trans h))
theorem Em.oD{e:Em α}{p:PD}{x:α}(h:e.dec p=some x):p.strip=e.aB x:=by
 unfold Em.dec at h;split at h
 .rename_i hx;simp only[yAb]at h;subst h;exact hx.choose_spec
 .cases h
@[simp] theorem Em.aBJ{e:Em α}{x:α}:e.dec (e.aB x)=some x:=Em.cT (e.str x)
def Em.int(k:IntKind):Em Int:=⟨PD.int k,λh=>Dl,λ_=>Ir,λ_=>by simp[PD.bY]⟩
def Em.bool:Em Bool:=⟨PD.bool,λh=>Dl,λ_=>Ir,λ_=>by simp[PD.bY]⟩
def Em.text:Em (List UInt8):=⟨PD.str,λh=>Dl,λ_=>Ir,λ_=>by simp[PD.bY]⟩
def Em.unit:Em Unit:=⟨λ_=>.aH [],λ_=>rfl,λ_=>by simp[PD.strip,PD.mJ],λ_=>by simp[PD.bY,PD.fW]⟩
def sz(k:Nat)(xs:List α):Nat:=if xs.length=0 then 0 else k
@[simp] theorem aVm{k:Nat}{xs:List α}:(xs=[]\/k=sz k xs)=True:=by
  cases xs<;>simp[sz]
theorem tK{k:Nat}{xs:List α}(h:xs≠[]):sz k xs=k:=by
 cases xs<;>simp[sz]at *
theorem aBK{f:α->β}(hf:∀x y,f x=f y->x=y):∀(xs ys:List α),xs.map f=ys.map f->xs=ys
 | [],[],_=>rfl
 | [],_::_,h=>Ea
 |_::_,[],h=>Ea
 |x::xs,y::ys,h=>by
  simp only[yAW,yCv]at h;rw[hf x y h.1,aBK hf xs ys h.2]
def Em.list(e:Em α)(k:Nat):Em (List α) where
 aB:=λxs=>.slice (sz k xs) (xs.map e.aB) .any
 inj:=fun {x y} h=>by
  simp only[PD.slice.injEq,yBk]at h;exact aBK (λ_ _ h=>e.inj h) x y h.2
 str:=λxs=>by
  rw[PD.sA];have:(xs.map e.aB).map PD.strip=xs.map e.aB:=by
   rw[yBE];exact yAG λx _=>e.str x
  rw[this];cases xs<;>simp[sz]
 eO:=λxs=>by
  simp only[PD.bY,PD.tO,yDp,List.all_map];exact yAn.2 λx _=>e.eO x
def Em.nT(a:Em α)(b:Em β):Em (α×β) where
 aB:=λx=>.aH [a.aB x.1,b.aB x.2]
 inj:=fun {x y} h=>by
  simp only[PD.aH.injEq,yCv,yBk]at h;exact yCF (a.inj h.1) (b.inj h.2)
 str:=λx=>by simp[PD.strip,PD.mJ,a.str,b.str]
 eO:=λx=>by simp[PD.bY,PD.fW,a.eO,b.eO]
def Em.UJ(a:Em α)(b:Em β)(c:Em γ):Em (α×β×γ) where
 aB:=λx=>.aH [a.aB x.1,b.aB x.2.1,c.aB x.2.2]
 inj:=fun {x y} h=>by
  simp only[PD.aH.injEq,yCv,yBk]at h;exact yCF (a.inj h.1) (yCF (b.inj h.2.1) (c.inj h.2.2))
 str:=λx=>by simp[PD.strip,PD.mJ,a.str,b.str,c.str]
 eO:=λx=>by simp[PD.bY,PD.fW,a.eO,b.eO,c.eO]
def Em.aIc(a:Em α)(b:Em β)(c:Em γ)(d:Em δ):Em (α×β×γ×δ) where
 aB:=λx=>.aH [a.aB x.1,b.aB x.2.1,c.aB x.2.2.1,d.aB x.2.2.2]
 inj:=fun {x y} h=>by
  simp only[PD.aH.injEq,yCv,yBk]at h;exact yCF (a.inj h.1) (yCF (b.inj h.2.1) (yCF (c.inj h.2.2.1) (d.inj h.2.2.2)))
 str:=λx=>by simp[PD.strip,PD.mJ,a.str,b.str,c.str,d.str]
 eO:=λx=>by simp[PD.bY,PD.fW,a.eO,b.eO,c.eO,d.eO]
def bV.one(e:Em α):bV α where
 cells:=λx=>[e.aB x]
 len:=1
 hlen:=λ_=>rfl
 inj:=λh=>e.inj Dl
 str:=λx=>by simp[e.str]
 eO:=λx=>by simp[e.eO]
def bV.pair(a:bV α)(b:bV β):bV (α×β) where
 cells:=λx=>a.cells x.1++b.cells x.2
 len:=a.len+b.len
 hlen:=λ_=>by simp[a.hlen,b.hlen]
 inj:=fun {x y} h=>by
  have:=List.append_inj h (by simp[a.hlen]);exact yCF (a.inj this.1) (b.inj this.2)
 str:=λ_=>by simp only[yAH,a.str,b.str]
 eO:=λ_=>by simp only[yDH,a.eO,b.eO,yCr]
def bV.nK(a:bV β)(f:α->β)(hf:∀x y,f x=f y->x=y):bV α where
 cells:=λx=>a.cells (f x)
 len:=a.len
 hlen:=λx=>a.hlen _
 inj:=λh=>hf _ _ (a.inj h)
 str:=λx=>a.str _
 eO:=λx=>a.eO _
def Em.agg(a:bV α):Em α where
 aB:=λx=>.agg (a.cells x)
 inj:=λh=>a.inj Dl
 str:=λ_=>by simp only[PD.strip,PD.r9,a.str]
 eO:=λ_=>by simp only[PD.bY,PD.tO,a.eO]
def Em.nK(a:Em β)(f:α->β)(hf:∀x y,f x=f y->x=y):Em α where
 aB:=λx=>a.aB (f x)
 inj:=λh=>hf _ _ (a.inj h)
 str:=λx=>a.str _
 eO:=λx=>a.eO _
@[simp] theorem aVn{k:IntKind}{n:Int}:(Em.int k).aB n=.int k n:=rfl
@[simp] theorem aVo{b:Bool}:Em.bool.aB b=.bool b:=rfl
@[simp] theorem aVp{s:Jr}:Em.text.aB s=.str s:=rfl
@[simp] theorem aVq{u:Unit}:Em.unit.aB u=.aH []:=rfl
@[simp] theorem aU{e:Em α}{k:Nat}{xs:List α}:(e.list k).aB xs=.slice (sz k xs) (xs.map e.aB) .any:=rfl
@[simp] theorem aVr{a:Em α}{b:Em β}{x:α×β}:(a.nT b).aB x=.aH [a.aB x.1,b.aB x.2]:=rfl
@[simp] theorem aVs{a:Em α}{b:Em β}{c:Em γ}{x:α×β×γ}:(a.UJ b c).aB x=.aH [a.aB x.1,b.aB x.2.1,c.aB x.2.2]:=rfl
@[simp] theorem aVt{a:Em α}{b:Em β}{c:Em γ}{d:Em δ}{x:α×β×γ×δ}:(a.aIc b c d).aB x=.aH [a.aB x.1,b.aB x.2.1,c.aB x.2.2.1,d.aB x.2.2.2]:=rfl
@[simp] theorem aVu{k:IntKind}{n:Int}:(Em.int k).dec (.int k n)=some n:=Em.cT Ir
open Classical in
def dY(c:Prop)(x:Option α):Option α:=if c then x else none
@[simp] theorem fM{c:Prop}{x:Option α}(h:c):dY c x=x:=yAJ h
theorem fO{c:Prop}{x:Option α}{y:α}(h:dY c x=some y):c/\x=some y:=by
 unfold dY at h;split at h
 .exact⟨‹_›,h⟩
 .cases h
def xI(r:Em β)(F:Option β):List PD->Option PD
 | []=>match F with|some z=>some (r.aB z)|none=>none
 |_=>none
def cK(a:Em α)(r:Em β)(F:α->Option β):List PD->Option PD
 | [p]=>match a.dec p with
   |some x=>match F x with|some z=>some (r.aB z)|none=>none
   |none=>none
 |_=>none
def eM(a:Em α)(b:Em β)(r:Em γ)(F:α->β->Option γ):List PD->Option PD
 | [p,q]=>match a.dec p,b.dec q with
   |some x,some y=>match F x y with|some z=>some (r.aB z)|none=>none
   |_,_=>none
 |_=>none
def wF(a:Em α)(b:Em β)(c:Em γ)(r:Em δ)(F:α->β->γ->Option δ):List PD->Option PD
 | [p,q,s]=>match a.dec p,b.dec q,c.dec s with
   |some x,some y,some u=>match F x y u with|some z=>some (r.aB z)|none=>none
   |_,_,_=>none
 |_=>none
def entry(g:List PD->Option PD):Nat->List PD->List aA->Option (PD×List aA):=λ_ args σ=>match g args with|some p=>some (p,σ)|none=>none
variable{P:Program}{E:aE}{f:FuncId}
def aI(P:Program)(E:aE)(f:FuncId)(args:List PD)(p:PD):Prop:=∃p1 σ1,nQ P E 0 (.inl f) args [] p1 σ1/\p1.strip=p
theorem aF.mR(hE:aF P E)(hP:P.follows .mixedOrders=true){a:Em α}{r:Em β}{F:α->Option β}(h:∀x z,F x=some z->aI P E f [a.aB x] (r.aB z)):aF P (E.add f (entry (cK a r F))):=by
 refine hE.AV hP λargs p hg=>?_
 match args,hg with
 | [q],hg=>
   simp only[cK]at hg;split at hg
   .rename_i x hx;split at hg
    .rename_i z hz;simp only[yAb]at hg;subst hg;obtain⟨p1,σ1,e1,e2⟩:=h x z hz;have:=Em.oD hx;exact⟨p1,σ1,by simpa [this]using e1,e2,by simp[this,PD.fW,a.eO],r.eO z⟩
    .cases hg
   .cases hg
theorem aF.rF(hE:aF P E)(hP:P.follows .mixedOrders=true){a:Em α}{b:Em β}{r:Em γ}{F:α->β->Option γ}(h:∀x y z,F x y=some z->aI P E f [a.aB x,b.aB y] (r.aB z)) :
  aF P (E.add f (entry (eM a b r F))):=by
 refine hE.AV hP λargs p hg=>?_
 match args,hg with
 | [q,s],hg=>
   simp only[eM]at hg;split at hg
   .rename_i x y hx hy;split at hg
    .rename_i z hz;simp only[yAb]at hg;subst hg;obtain⟨p1,σ1,e1,e2⟩:=h x y z hz;have h1:=Em.oD hx;have h2:=Em.oD hy;exact⟨p1,σ1,by simpa [h1,h2]using e1,e2,by simp[h1,h2,PD.fW,a.eO,b.eO],r.eO z⟩
    .cases hg
   .cases hg
theorem aF.aBL(hE:aF P E)(hP:P.follows .mixedOrders=true){a:Em α}{b:Em β}{c:Em γ}{r:Em δ}{F:α->β->γ->Option δ}
  (h:∀x y u z,F x y u=some z->aI P E f [a.aB x,b.aB y,c.aB u] (r.aB z)):aF P (E.add f (entry (wF a b c r F))):=by
 refine hE.AV hP λargs p hg=>?_
 match args,hg with
 | [q,s,t],hg=>
   simp only[wF]at hg;split at hg
   .rename_i x y u hx hy hu;split at hg
    .rename_i z hz;simp only[yAb]at hg;subst hg;obtain⟨p1,σ1,e1,e2⟩:=h x y u z hz;have h1:=Em.oD hx;have h2:=Em.oD hy;have h3:=Em.oD hu;exact⟨p1,σ1,by simpa [h1,h2,h3]using e1,e2,by simp[h1,h2,h3,PD.fW,a.eO,b.eO,c.eO],r.eO z⟩
    .cases hg
   .cases hg
end
end
def pap(P:Program)(fl:Nat)(σ:List aA)(t:TypeId)(s x:PD):Option (PD×List aA):=
 match dM P 8 fl σ t s x with
 |some r=>some r
 |none=>kK P fl σ t s x.strip
def uF(P:Program)(t:TypeId)(sz:Nat):Nat->List PD->List aA->Option (PD×List aA):=λfl args σ=>match args with
 | [.slice _ [] _]=>some (.slice 0 [] .full,σ)
 | [.slice (n+1) (x::xs) tok]=>pap P fl σ t (.slice sz [] .full) (.slice (n+1) (x::xs) tok)
 | [.aO id ver off n s]=>pap P fl σ t (.slice sz [] .full) (.aO id ver off n s)
 |_=>none
theorem aQ3{c:Cx}{v:Value}{n:Nat}{tok:Tok}(h:VR c v (.slice n [] tok)):VR c v (.slice n [] .j7)\/VR c v (.slice n [] .kY):=by
 obtain⟨A,cap,fl,rfl,a1,a2,a3,a4,a5,a6,a7,a8⟩:=h.pK;cases A with
 |none=>exact .inl (.slice none _ cap n [] .j7 fl rfl a1 a2 a3 a4 a5 a6 a7 ⟨_,_,rfl⟩)
 |some a=>exact .inr (.slice (some a) _ cap n [] .kY fl rfl a1 a2 a3 a4 a5 a6 a7 ⟨_,_,_,rfl⟩)
theorem aQ4{c:Cx}{v:Value}{n m:Nat}{tok:Tok}(h:VR c v (.slice n [] tok))(ht:∀id,tok≠.own id):VR c v (.slice m [] tok):=by
 obtain⟨A,cap,fl,rfl,a1,a2,a3,a4,a5,a6,a7,a8⟩:=h.pK;have hf:fl=[]:=yAf (by rw[a4];simp);subst hf;refine .slice A _ cap m [] tok [] rfl a1 a2 Ck Ck a5 a6 a7 ?_;cases tok with
 |own id=>exact absurd rfl (ht id)
 |_=>exact a8
theorem aGc{c:Cx}{v:Value}{p:PD}(h:VR c v p):aY c [v] [p]:=⟨rfl,λi u d h1 h2=>by
 match i with
 |0=>simp at h1 h2;subst h1;subst h2;exact h
 |i+1=>simp at h1⟩
def JS(t:TypeId):Code:=
 .seq (.region 0 #[{ dst:=some 2,op:=Op.assign (Operand.const (Value.slice none 0 0)),type:=t,pos:= "slices.go:355",after:=#[],guard:=none }] false)
  (.seq (.seq (.region 1 #[{ dst:=some 3,op:=Op.move (Operand.tmp 0),type:=t,pos:= "slices.go:357",after:=#[],guard:=none },
        { dst:=some 4,op:=Op.binOp BinOp.eql t (Operand.tmp 3) (Operand.const (Value.slice none 0 0)) t,type:=4,pos:= "slices.go:357",after:=#[{ on:=0,ground:=Ground.data }],guard:=none }] false)
    (.cond (Operand.tmp 4) (.seq (.region 2 #[{ dst:=some 2,op:=Op.assign (Operand.const (Value.slice none 0 0)),type:=t,pos:= "slices.go:358",after:=#[],guard:=none }] false) .ret) .skip))
   (.seq (.region 3 #[{ dst:=some 5,op:=Op.buildSlice t 0 #[],type:=t,pos:= "slices.go:362",after:=#[],guard:=none },
     { dst:=some 6,op:=Op.move (Operand.tmp 0),type:=t,pos:= "slices.go:362",after:=#[],guard:=none },
     { dst:=some 7,op:=Op.call { callee:=Callee.builtin Builtin.append,args:=#[Operand.tmp 5,Operand.tmp 6],argTypes:=#[t,t] },type:=t,pos:= "slices.go:362",after:=#[{ on:=0,ground:=Ground.data },{ on:=1,ground:=Ground.data }],guard:=none },
     { dst:=some 2,op:=Op.assign (Operand.tmp 7),type:=t,pos:= "slices.go:362",after:=#[{ on:=2,ground:=Ground.data },{ on:=2,ground:=Ground.chain },{ on:=0,ground:=Ground.phase },{ on:=1,ground:=Ground.phase },{ on:=2,ground:=Ground.phase }],guard:=none }] false) .ret))
theorem aAp{P:Program}{E:aE}{f t sz:Nat}{e:TypeId}{fn:Func}(hE:E f=none)(hf:P.funcs[f]?=some fn)(hb:fn.body=some (JS t))(hn:fn.ntmps=8)(hr:fn.results=#[.tmp 2])(hu:P.underlying t=some (.slice e))
  (hnew:uX P t 0 []=some (.slice sz [] .full)) {fl:Nat} {σ:Jp} {s:PD} {r:PD} {σ1:Jp} (hs:iJ s=some false) (ha:pap P fl σ t (.slice sz [] .full) s=some (r,σ1)):fA P E 8 fl (.inl f) [s] σ=some (r,σ1):=by
 have h1:eI P .eql t s (.slice 0 [] .full)=none:=by
  unfold iJ at hs;split at hs
  .simp[eI,qN,mI,hu]
  .simp[eI,qN,mI,hu]
  .simp[eI,qN,mI,hu]
  .cases hs
 have h2:C6 P .eql t s (.const (.slice none 0 0))=some (.bool false):=by simp[C6,hu,hs]
 have hm:dE P fl [s,.aH [],.slice 0 [] .full,s,.bool false,.slice sz [] .full,s,.aH []] σ (Op.call { callee:=Callee.builtin Builtin.append,args:=#[Operand.tmp 5,Operand.tmp 6],argTypes:=#[t,t] })=some (r,σ1):=by
  unfold pap at ha;simp only[dE,lM,bD,yEl,List.getD_cons_zero,yAK];exact ha
 have hbs:∀fr,dE P fl fr σ (Op.buildSlice t 0 #[])=some (.slice sz [] .full,σ):=λfr=>by simp[dE,rI,hnew]
 simp[fA,tN,hE,FI,hf,hb,hn,hr,JS,jU,DA,fI,Region.wanted,cZ,iU,pop,eP,gA,lM,bD,ofValue,wJ,bC,h1,h2,hbs,hm,bQ,BD,y6,C7,FF]
theorem aQ5{P:Program}{E:aE}{f t:Nat}{e:TypeId}{fn:Func}(hE:E f=none)(hf:P.funcs[f]?=some fn)(hb:fn.body=some (JS t))(hn:fn.ntmps=8)(hr:fn.results=#[.tmp 2])(hu:P.underlying t=some (.slice e))
  {fl:Nat} {σ:Jp} {n:Nat}:fA P E 8 fl (.inl f) [.slice n [] .j7] σ=some (.slice 0 [] .full,σ):=by
 have h1:eI P .eql t (.slice n [] .j7) (.slice 0 [] .full)=none:=by simp[eI,qN,mI,hu]
 have h2:C6 P .eql t (.slice n [] .j7) (.const (.slice none 0 0))=some (.bool true):=by simp[C6,hu,iJ]
 simp[fA,tN,hE,FI,hf,hb,hn,hr,JS,jU,DA,fI,Region.wanted,cZ,iU,pop,eP,gA,lM,bD,ofValue,wJ,bC,h1,h2,bQ,BD,y6,C7,FF]
theorem aF.GY{P:Program}{E:aE}(hE:aF P E)(hP:P.follows .mixedOrders=true){f:Nat}(t sz:Nat)(e:TypeId)(CI:E f=none)(hfn:(P.funcs[f]?).map (λfn=>(fn.body,fn.ntmps,fn.results))=some (some (JS t),8,#[.tmp 2]))(hu:P.underlying t=some (.slice e))
  (hnew:uX P t 0 []=some (.slice sz [] .full)) (h1':∀fl σ n,pap P fl σ t (.slice sz [] .full) (.slice n [] .kY)=some (.slice sz [] .full,σ)) :
  aF P (E.add f (uF P t sz)):=by
 obtain⟨fn,hf,hb,hn,hr⟩:∃fn,P.funcs[f]?=some fn/\fn.body=some (JS t)/\fn.ntmps=8/\fn.results=#[.tmp 2]:=by
  cases hx:P.funcs[f]? with
  |none=>rw[hx]at hfn;cases hfn
  |some fn=>
   rw[hx]at hfn;simp only[yAC,yAb,yAc]at hfn;exact⟨fn,rfl,hfn.1,hfn.2.1,hfn.2.2⟩
 intro F fl f' g' args c vs p σ' hF hg hgo hs hX hv;unfold aE.add at hg;split at hg
 .rename_i e;subst e;simp only[yAb]at hg;subst hg;have key:=C5 hE hP hF 8;unfold uF at hgo;split at hgo
  .rename_i n tok;simp only[yAb,yAc]at hgo;obtain⟨rfl,rfl⟩:=hgo
   match vs,hv.1 with
   | [v],_=>
     have jL:=hv.2 0 v _ rfl rfl;rcases aQ3 jL with hn' | hn'
     .exact key.fn (aQ5 CI hf hb hn hr hu) hs hX (aGc hn')
     .have:=key.fn (aAp CI hf hb hn hr hu hnew (by rfl) (h1' fl c.σ n)) hs hX (aGc hn');refine⟨this.1,λm=>yCE (this.2 m) λe w' he=>?_⟩;cases e with
      |returned v=>
       obtain⟨c1,q1,q2,q3,q4,q5,q6⟩:=he;exact⟨c1,q1,q2,q3,q4,aQ4 q5 (λid e=>Dh),q6⟩
      |panicked ch=>exact he.elim
      |outgrown=>exact he.elim
  .rename_i n x xs tok;exact key.fn (aAp CI hf hb hn hr hu hnew (by simp[iJ]) hgo) hs hX hv
  .rename_i id ver off n s;exact key.fn (aAp CI hf hb hn hr hu hnew rfl hgo) hs hX hv
  .cases hgo
 .exact je
section
section
variable{P:Program}{E:aE}{rd:Option Nat}{fl:Nat}{fr:Jq}{ms:List Nat}{σ:Jp}{Q:PO->Prop}
structure Wp (P:Program) (E:aE) (rd:Option Nat) (c:Code) (fl:Nat) (fr:List PD) (ms:List Nat) (σ:List aA) (Q:PO->Prop):Prop where
 ex:∃r,Ev P E rd c fl fr ms σ r/\Q r
def gU(E:aE):cY
 |fl,.inl f,args,σ=>match E f with
  |some g=>g fl args σ
  |none=>none
 |_,.inr _,_,_=>none
theorem UI{n:Nat}{tg:FuncId ⊕ Nat}{args:Jq}{x:PD×Jp}(h:gU E fl tg args σ=some x):fA P E n fl tg args σ=some x:=by
 cases tg with
 |inl f=>
  simp only[gU]at h;simp only[fA,tN];split at h
  .rename_i g hg;rw[hg];exact h
  .cases h
 |inr id=>cases h
theorem PC{n:Nat}{op:Op}{x:PD×Jp}(h:cZ P (gU E) fl fr σ op=some x):cZ P (fA P E n) fl fr σ op=some x:=by
 unfold cZ at *;split at h
 .exact UI h
 .exact h
theorem O9{n:Nat}{ops:Ju}:∀ {l:List Oper} {fr:Jq} {σ:Jp} {x:Jq×Jp},fI P (gU E) fl ops l fr σ=some x->fI P (fA P E n) fl ops l fr σ=some x
 | [],_,_,_,h=>h
 |o::rest,fr,σ,x,h=>by
  simp only[fI]at h ⊢;split at h
  .rename_i hw;rw[yAJ hw];split at h
   .rename_i p σ1 hp;rw[PC hp];exact O9 h
   .cases h
  .rename_i hw;rw[yAI hw];exact O9 h
theorem PE{n:Nat}{ops:Ju}:∀ {l:List (Bool×Oper)} {fr:Jq} {σ:Jp} {x:Jq×Jp},oT P (gU E) fl ops l fr σ=some x->oT P (fA P E n) fl ops l fr σ=some x
 | [],_,_,_,h=>h
 |(free,o)::rest,fr,σ,x,h=>by
  simp only[oT]at h ⊢;split at h
  .rename_i hw;rw[yAJ hw];cases free with
   |true=>
    exact rj
   |false=>
    exact rj
  .rename_i hw;rw[yAI hw];exact PE h
theorem Wp.mono{c:Code}{Q':PO->Prop}(h:Wp P E rd c fl fr ms σ Q)(k:∀r,Q r->Q' r):Wp P E rd c fl fr ms σ Q':=by
 obtain⟨r,h1,h2⟩:=h.ex;exact⟨r,h1,k r h2⟩
theorem Wp.skip(h:Q ⟨.normal,fr,ms,σ⟩):Wp P E rd .skip fl fr ms σ Q:=⟨_,.skip,h⟩
theorem Wp.ret(h:Q ⟨.ret,fr,ms,σ⟩):Wp P E rd .ret fl fr ms σ Q:=⟨_,.ret,h⟩
theorem Wp.exit{id:Nat}(h:Q ⟨.exit id,fr,ms,σ⟩):Wp P E rd (.exit id) fl fr ms σ Q:=⟨_,.exit,h⟩
structure mQ (P:Program) (E:aE) (rd:Option Nat) (y:Code) (fl:Nat) (Q:PO->Prop) (r:PO):Prop where
 nx:r.x=.normal->Wp P E rd y fl r.fr r.ms r.σ Q
 out:r.x≠.normal->Q r
theorem Wp.seq{x y:Code}(h:Wp P E rd x fl fr ms σ (mQ P E rd y fl Q)):Wp P E rd (.seq x y) fl fr ms σ Q:=by
 obtain⟨⟨x1,aX,ms1,σ1⟩,h1,h2⟩:=h.ex;cases x1 with
 |normal=>
  obtain⟨r2,h3,h4⟩:=(h2.nx rfl).ex;exact⟨r2,.seq h1 h3,h4⟩
 |ret=>exact⟨_,.aBG h1 Ck,h2.out Ck⟩
 |exit k=>exact⟨_,.aBG h1 Ck,h2.out Ck⟩
theorem mQ.normal{y:Code}(h:Wp P E rd y fl fr ms σ Q):mQ P E rd y fl Q ⟨.normal,fr,ms,σ⟩:=⟨λ_=>h,λe=>absurd rfl e⟩
theorem mQ.ret{y:Code}(h:Q ⟨.ret,fr,ms,σ⟩):mQ P E rd y fl Q ⟨.ret,fr,ms,σ⟩:=⟨λe=>Dh,λ_=>h⟩
theorem mQ.exit{y:Code}{k:Nat}(h:Q ⟨.exit k,fr,ms,σ⟩):mQ P E rd y fl Q ⟨.exit k,fr,ms,σ⟩:=⟨λe=>Dh,λ_=>h⟩
theorem Wp.cond{g:Operand}{x y:Code}{b:Bool}(hg:bD fr g=some (.bool b))(h1:b=true->Wp P E rd x fl fr ms σ Q)(h2:b=false->Wp P E rd y fl fr ms σ Q):Wp P E rd (.cond g x y) fl fr ms σ Q:=by
 cases b with
 |true=>obtain⟨r,e1,e2⟩:=(h1 rfl).ex;exact⟨r,.cond hg e1,e2⟩
 |false=>obtain⟨r,e1,e2⟩:=(h2 rfl).ex;exact⟨r,.cond hg e1,e2⟩
theorem Wp.cond_true{g:Operand}{x y:Code}(hg:bD fr g=some (.bool true))(h1:Wp P E rd x fl fr ms σ Q):Wp P E rd (.cond g x y) fl fr ms σ Q:=.cond hg (λ_=>h1) (λh=>Co)
theorem Wp.cond_false{g:Operand}{x y:Code}(hg:bD fr g=some (.bool false))(h1:Wp P E rd y fl fr ms σ Q):Wp P E rd (.cond g x y) fl fr ms σ Q:=.cond hg (λh=>Co) (λ_=>h1)
structure kJ (id:Nat) (Q:PO->Prop) (r:PO):Prop where
 out:∀k,r.x=.exit k->Q ⟨if k=id then .normal else .exit k,r.fr,r.ms,r.σ⟩
 on:(∀k,r.x≠.exit k)->Q r
theorem Wp.block{id:Nat}{b:Code}(h:Wp P E rd b fl fr ms σ (kJ id Q)):Wp P E rd (.block id b) fl fr ms σ Q:=by
 obtain⟨⟨x1,aX,ms1,σ1⟩,h1,h2⟩:=h.ex;cases x1 with
 |normal=>exact⟨_,.aBH h1 Ck,h2.on Ck⟩
 |ret=>exact⟨_,.aBH h1 Ck,h2.on Ck⟩
 |exit k=>exact⟨_,.block h1,h2.out k rfl⟩
theorem kJ.normal{id:Nat}(h:Q ⟨.normal,fr,ms,σ⟩):kJ id Q ⟨.normal,fr,ms,σ⟩:=⟨λ_ e=>Dh,λ_=>h⟩
theorem kJ.ret{id:Nat}(h:Q ⟨.ret,fr,ms,σ⟩):kJ id Q ⟨.ret,fr,ms,σ⟩:=⟨λ_ e=>Dh,λ_=>h⟩
theorem kJ.here{id:Nat}(h:Q ⟨.normal,fr,ms,σ⟩):kJ id Q ⟨.exit id,fr,ms,σ⟩:=
 ⟨λk e=>by simp only[PX.exit.injEq]at e;subst e;rw[yAJ rfl];exact h,λe=>absurd rfl (e id)⟩
structure nM (P:Program) (E:aE) (rd:Option Nat) (b:Code) (fl:Nat) (Q:PO->Prop) (r:PO):Prop where
 nx:r.x=.normal->Wp P E rd (.loop b) fl r.fr r.ms r.σ Q
 out:r.x≠.normal->Q r
theorem Wp.loop{b:Code}(h:Wp P E rd b fl fr ms σ (nM P E rd b fl Q)):Wp P E rd (.loop b) fl fr ms σ Q:=by
 obtain⟨⟨x1,aX,ms1,σ1⟩,h1,h2⟩:=h.ex;cases x1 with
 |normal=>
  obtain⟨r2,h3,h4⟩:=(h2.nx rfl).ex;exact⟨r2,.loop h1 h3,h4⟩
 |ret=>exact⟨_,.aBI h1 Ck,h2.out Ck⟩
 |exit k=>exact⟨_,.aBI h1 Ck,h2.out Ck⟩
theorem nM.normal{b:Code}(h:Wp P E rd (.loop b) fl fr ms σ Q):nM P E rd b fl Q ⟨.normal,fr,ms,σ⟩:=⟨λ_=>h,λe=>absurd rfl e⟩
theorem nM.ret{b:Code}(h:Q ⟨.ret,fr,ms,σ⟩):nM P E rd b fl Q ⟨.ret,fr,ms,σ⟩:=⟨λe=>Dh,λ_=>h⟩
theorem nM.exit{b:Code}{k:Nat}(h:Q ⟨.exit k,fr,ms,σ⟩):nM P E rd b fl Q ⟨.exit k,fr,ms,σ⟩:=⟨λe=>Dh,λ_=>h⟩
theorem Wp.region{id:Nat}{ops:Ju}{aX:Jq}{σ1:Jp}(h:fI P (gU E) fl ops ops.toList fr σ=some (aX,σ1))(k:Q ⟨.normal,aX,ms,σ1⟩):Wp P E rd (.region id ops false) fl fr ms σ Q:=
 ⟨_,.region (N:=0) (λ_ _=>O9 h),k⟩
theorem Wp.draw{id:Nat}{ops:Ju}{aX:Jq}{σ1:Jp}(hs:HM ops=true)(h:oT P (gU E) fl ops (flags ops 0 ops.toList) fr σ=some (aX,σ1))(k:Q ⟨.normal,aX,ms,σ1⟩) :
  Wp P E rd (.region id ops true) fl fr ms σ Q:=
 ⟨_,.draw (N:=0) (λ_ _=>by rw[aBD hs];exact PE h),k⟩
theorem aI.body{f:FuncId}{fn:Func}{c:Code}{args:Jq}{p:PD}(hE:E f=none)(hf:P.funcs[f]?=some fn)(hb:fn.body=some c)
  (h:Wp P E none c 0 (args++List.replicate (fn.ntmps-args.length) (.aH [])) [] [] (λr=>∃p1 σ1,bQ P 0 fn r=some (p1,σ1)/\p1.strip=p)):aI P E f args p:=by
 exact xp
end
theorem wrap_i64{x:Int}(h:-9223372036854775808<=x)(h':x<=9223372036854775807):IntKind.i64.wrap x=x:=by
 simp[IntKind.wrap,IntKind.min,IntKind.max,IntKind.signed,IntKind.bits]
 try omega
theorem wrap_u64:True:=trivial
end
section
attribute [simp] fI oT flags Region.wanted cH cZ iU pop eP qO bD bC lM gA ofValue wJ wK dR PD.cells gU rI HN
attribute [simp] PD.plain PD.setCells dF HK gK bQ BD y6 C7 FF C4 HL HO y8 KY FG
attribute [simp] PD.strip PD.mJ FB rH KV KU FH
@[simp] theorem r9{α:Type}{e:Em α}{xs:List α}:PD.mJ (xs.map e.aB)=xs.map e.aB:=by
  rw[PD.r9,yBE];exact yAG λx _=>e.str x
@[simp] theorem aUa{α:Type}{e:Em α}{k:Nat}{xs:List α}{tok:Tok}:(PD.slice k (xs.map e.aB) tok).strip=.slice (sz k xs) (xs.map e.aB) .any:=by
  cases xs with
  |nil=>simp[PD.strip,sz]
  |cons x xs=>simp[PD.strip,sz,e.str]
section
variable{P:Program}{t:TypeId}{k k':IntKind}{a b:Int}{op:BinOp}
@[simp] theorem aUb:eI P .add t (.int k a) (.int k' b)=if k=k' then iV .add k a b else none:=rfl
@[simp] theorem aUc:eI P .sub t (.int k a) (.int k' b)=if k=k' then iV .sub k a b else none:=rfl
@[simp] theorem aUd:eI P .mul t (.int k a) (.int k' b)=if k=k' then iV .mul k a b else none:=rfl
@[simp] theorem aUe:eI P .quo t (.int k a) (.int k' b)=if k=k' then iV .quo k a b else none:=rfl
@[simp] theorem aUf:eI P .rem t (.int k a) (.int k' b)=if k=k' then iV .rem k a b else none:=rfl
@[simp] theorem aUg:eI P .eql t (.int k a) (.int k' b)=if k=k' then iV .eql k a b else none:=rfl
@[simp] theorem aUh:eI P .neq t (.int k a) (.int k' b)=if k=k' then iV .neq k a b else none:=rfl
@[simp] theorem aUi:eI P .lss t (.int k a) (.int k' b)=if k=k' then iV .lss k a b else none:=rfl
@[simp] theorem aUj:eI P .leq t (.int k a) (.int k' b)=if k=k' then iV .leq k a b else none:=rfl
@[simp] theorem aUk:eI P .gtr t (.int k a) (.int k' b)=if k=k' then iV .gtr k a b else none:=rfl
@[simp] theorem aUl:eI P .geq t (.int k a) (.int k' b)=if k=k' then iV .geq k a b else none:=rfl
@[simp] theorem aUm:eI P .and t (.int k a) (.int k' b)=if k=k' then iV .and k a b else none:=rfl
@[simp] theorem aUn:eI P .or t (.int k a) (.int k' b)=if k=k' then iV .or k a b else none:=rfl
@[simp] theorem aUo:eI P .xor t (.int k a) (.int k' b)=if k=k' then iV .xor k a b else none:=rfl
@[simp] theorem aUp:eI P .andNot t (.int k a) (.int k' b)=if k=k' then iV .andNot k a b else none:=rfl
@[simp] theorem aUq:eI P .shl t (.int k a) (.int k' b)=KZ .shl k a b:=rfl
@[simp] theorem aUr:eI P .shr t (.int k a) (.int k' b)=KZ .shr k a b:=rfl
@[simp] theorem aUs{x y:Jr}:eI P op t (.str x) (.str y)=KY op x y:=rfl
theorem aH8{x y:PD}{c:Bool}(h1:∀k a k' b,¬(x=.int k a/\y=.int k' b))(h2:∀a b,¬(x=.str a/\y=.str b))(h:mI P 12 t x y=some c)(h3:∀xs ys,¬(x=.agg xs/\y=.agg ys)):eI P .eql t x y=some (.bool c):=by
 exact fj
theorem aH9{x y:PD}{c:Bool}(h1:∀k a k' b,¬(x=.int k a/\y=.int k' b))(h2:∀a b,¬(x=.str a/\y=.str b))(h:mI P 12 t x y=some c)(h3:∀xs ys,¬(x=.agg xs/\y=.agg ys)):eI P .neq t x y=some (.bool (!c)):=by
 exact fj
@[simp] theorem aUt{x y:Bool}(hu:P.underlying t=some .bool):eI P .eql t (.bool x) (.bool y)=some (.bool (decide (x=y))):=
  aH8 Ck Ck Iu Ck
@[simp] theorem aUu{x y:Bool}(hu:P.underlying t=some .bool):eI P .neq t (.bool x) (.bool y)=some (.bool (!decide (x=y))):=
  aH9 Ck Ck Iu Ck
section
variable{e:TypeId}{i o:Nat}{cs:Jq}
end
end
section
variable{k:IntKind}{x y:Int}
@[simp] theorem aUv:iV .add k x y=some (.int k (k.wrap (x+y))):=rfl
@[simp] theorem aUw:iV .sub k x y=some (.int k (k.wrap (x-y))):=rfl
@[simp] theorem aUx:iV .mul k x y=some (.int k (k.wrap (x*y))):=rfl
@[simp] theorem aUy:iV .quo k x y=if y=0 then none else some (.int k (k.wrap (x.tdiv y))):=rfl
@[simp] theorem aUz:iV .rem k x y=if y=0 then none else some (.int k (x.tmod y)):=rfl
@[simp] theorem aUA:iV .eql k x y=some (.bool (decide (x=y))):=rfl
@[simp] theorem aUB:iV .neq k x y=some (.bool (!decide (x=y))):=rfl
@[simp] theorem aUC:iV .lss k x y=some (.bool (decide (x<y))):=rfl
@[simp] theorem aUD:iV .leq k x y=some (.bool (decide (x<=y))):=rfl
@[simp] theorem aUE:iV .gtr k x y=some (.bool (decide (x > y))):=rfl
@[simp] theorem aUF:iV .geq k x y=some (.bool (decide (x >= y))):=rfl
@[simp] theorem aUG:iV .and k x y=(match C8 .and k x y with|some z=>some (.int k z)|none=>none):=rfl
@[simp] theorem aUH:iV .or k x y=(match C8 .or k x y with|some z=>some (.int k z)|none=>none):=rfl
@[simp] theorem aUI:iV .xor k x y=(match C8 .xor k x y with|some z=>some (.int k z)|none=>none):=rfl
@[simp] theorem aUJ:iV .andNot k x y=(match C8 .andNot k x y with|some z=>some (.int k z)|none=>none):=rfl
end
section
variable{P:Program}{fl:Nat}{fr:Jq}{σ:Jp}
@[simp] theorem aUK{t:TypeId}{x:Operand}:dE P fl fr σ (.load t x)=(match bD fr x with
  |some a=>(match qO P σ t a with|some p=>some (p,σ)|none=>none)
  |none=>none):=rfl
@[simp] theorem aUL{t:TypeId}{x y:Operand}:dE P fl fr σ (.store t x y)=(match bD fr x,bD fr y with
  |some a,some p=>(match rH P fl σ t a p with|some σ'=>some (.aH [],σ')|none=>none)
  |_,_=>none):=rfl
@[simp] theorem aUM{t:TypeId}{x:Operand}:dE P fl fr σ (.box t x)=(match bD fr x with
  |some p=>if p.cells.all PD.plain then some (.ptr σ.length 0,σ++[.box p])else none
  |none=>none):=rfl
@[simp] theorem aUN{t:TypeId}{cs:Jq}:boxed t (.agg cs)=if PA t=true then .typed t (cs.map xL)else .agg cs:=rfl
@[simp] theorem aUO:xL (.slice 0 [] .full)=.slice 0 [] .nil:=rfl
@[simp] theorem aUP:xL .iL=.iL:=rfl
@[simp] theorem aUQ{k:IntKind}{n:Int}:xL (.int k n)=.int k n:=rfl
@[simp] theorem aUR{s:Jr}:xL (.str s)=.str s:=rfl
@[simp] theorem aUS{t:TypeId}{k:IntKind}{n:Int}:boxed t (.int k n)=.int k n:=rfl
@[simp] theorem aUT{t:TypeId}{b:Bool}:boxed t (.bool b)=.bool b:=rfl
@[simp] theorem aUU{t:TypeId}{s:Jr}:boxed t (.str s)=.str s:=rfl
@[simp] theorem aUV{t:TypeId}{n:Nat}{xs:Jq}{tok:Tok}:boxed t (.slice n xs tok)=.slice n xs tok:=rfl
@[simp] theorem aUW{t:TypeId}:boxed t .iL=.iL:=rfl
@[simp] theorem aUX{t:TypeId}:boxed t .jR=.jR:=rfl
@[simp] theorem aUY{t:TypeId}{v:Value}:boxed t (.gP v)=.gP v:=rfl
@[simp] theorem aUZ{t:TypeId}:dE P fl fr σ (.alloc t)=(match fP P t with
  |some p=>if p.cells.all PD.plain then some (.ptr σ.length 0,σ++[.box (boxed t p)])else none
  |none=>none):=rfl
@[simp] theorem aU0{t:TypeId}{len:Nat}{parts:Array (Nat×Operand)}:dE P fl fr σ (.buildSlice t len parts)=(match rI fr parts.toList with
  |some ps=>(match uX P t len (ps.map λq=>(q.1,q.2.strip))with|some p=>some (p,σ)|none=>none)
  |none=>none):=rfl
@[simp] theorem aU1{args:Array Operand}{ts:Array TypeId}:dE P fl fr σ (.call { callee:=.builtin .append,args:=args,argTypes:=ts })=(match lM fr args.toList,ts.toList with
  |some [s,x],[t,t']=>if t=t' then(match dM P fr.length fl σ t s x with|some r=>some r|none=>kK P fl σ t s x.strip)else(match P.underlying t',x with
   |some .string,.str l=>if HP P t=true then(match dM P fr.length fl σ t s (.slice (if l.length=0 then 0 else 1) (l.map λb=>.int .u8 b.toNat) .any)with|some r=>some r|none=>kK P fl σ t s (.slice (if l.length=0 then 0 else 1) (l.map λb=>.int .u8 b.toNat) .any))else none
   |some (.int .i64),.int .i64 m=>HQ P fr.length σ t s m
   |_,_=>none)
  |_,_=>none):=rfl
def jT(n:Nat):PD->Int->Option PD
 |.slice size xs _,i=>if 0<=i then(if (xs.length=0\/n=size)/\0<n then(match xs[i.toNat]? with|some p=>some (.fK p.cells 0)|none=>none)else none)else none
 |.dU id off m size,i=>if 0<=i then(if n=size/\i.toNat<m then some (.ptr id (off+i.toNat*n))else none)else none
 |.aO id ver off m size,i=>if 0<=i then(if n=size/\i.toNat<m then some (.dG id ver (off+i.toNat*n))else none)else none
 |_,_=>none
def UE(len n:Nat)(x:PD)(i:Int):Option PD:=
 if 0<=i then(if i.toNat<len then(match x with
  |.ptr id off=>some (.ptr id (off+i.toNat*n))
  |.fK cs off=>some (.fK cs (off+i.toNat*n))
  |.dG id ver off=>some (.dG id ver (off+i.toNat*n))
  |_=>none)else none)else none
@[simp] theorem aU2{t:TypeId}{x:PD}{k:IntKind}{i:Int}:jD P t x (.int k i)=(match P.underlying t with
  |some (.array len e)=>(match cM P e with|some n=>UE len n x i|none=>none)
  |some (.slice e)=>(match cM P e with|some n=>jT n x i|none=>none)
  |_=>none):=by
  unfold jD
  by_cases h0:0<=i
  .cases hu:P.underlying t with
   |none=>simp[h0]
   |some d=>
    cases d<;>simp only[gL,h0,yAK,UE]<;>try rfl
    rename_i e;cases cM P e<;>cases x<;>simp only[jT,h0,yAK]<;>rfl
  .cases hu:P.underlying t with
   |none=>simp[h0]
   |some d=>
    cases d<;>simp only[gL,h0,yAN,UE]<;>try rfl
    all_goals (rename_i e;cases cM P e<;>cases x<;>simp only[jT,h0,yAN])
@[simp] theorem aU3{n size:Nat}{xs:Jq}{tok:Tok}{i:Int}(h0:0<=i)(hn0:0<n)(hs:xs=[]\/n=size)(hi:i.toNat<xs.length):jT n (.slice size xs tok) i=some (.fK xs[i.toNat].cells 0):=by
  have hx:xs.length=0\/n=size:=hs.imp (λh=>Eb) (λh=>h);simp only[jT,h0,hx,hn0,yBy,yAK,yAh hi]
@[simp] theorem aU4{n id off m:Nat}{i:Int}(h0:0<=i)(hi:i.toNat<m):jT n (.dU id off m n) i=some (.ptr id (off+i.toNat*n)):=by
  simp only[jT,h0,hi,yBy,yAK]
def PB(s:List UInt8)(i:Int):Option PD:=if 0<=i then(match s[i.toNat]? with|some b=>some (.int .u8 b.toNat)|none=>none)else none
@[simp] theorem aU5{s:Jr}{i:Int}(h0:0<=i)(hi:i.toNat<s.length):PB s i=some (.int .u8 s[i.toNat].toNat):=by
  unfold PB;rw[yAJ h0,yAh hi]
@[simp] theorem aU6{t:TypeId}{s:Jr}{k:IntKind}{i:Int}:BA P t (.str s) (.int k i)=(match P.underlying t with
  |some .string=>PB s i
  |_=>none):=by
  unfold BA PB
  by_cases h0:0<=i
  .cases hu:P.underlying t with
   |none=>simp[h0]
   |some d=>cases d<;>simp only[gL,h0,yAK]<;>rfl
  .cases hu:P.underlying t with
   |none=>simp[h0]
   |some d=>cases d<;>simp only[gL,h0,yAN]<;>try rfl
@[simp] theorem aU7{t:TypeId}{cs:Jq}{k:IntKind}{i:Int}:BA P t (.agg cs) (.int k i)=(match P.underlying t with
  |some (.array len e)=>(match cM P e with
   |some n=>if 0<=i then(if i.toNat<len then oV P e cs (i.toNat*n)else none)else none
   |none=>none)
  |_=>none):=by
  unfold BA
  by_cases h0:0<=i
  .cases hu:P.underlying t with
   |none=>simp[gL,h0]
   |some d=>cases d<;>simp only[gL,h0,yAK]<;>rfl
  .cases hu:P.underlying t with
   |none=>simp[gL,h0]
   |some d=>
    cases d<;>simp only[gL,h0,yAN]<;>try rfl
    cases cM P _<;>rfl
@[simp] theorem aU8{k:IntKind}{i:Int}(h:0<=i):gL (some (.int k i))=some i.toNat:=by simp only[gL,h,yAK]
def C9(n l h:Nat):Option (Nat×Nat):=if l<=h/\h<=n then some (l,h)else none
@[simp] theorem aU9{n l h:Nat}(h1:l<=h)(h2:h<=n):C9 n l h=some (l,h):=by simp[C9,h1,h2]
@[simp] theorem aVa{n:Nat}{x:Option PD}:kV n (some x) none=(match gL x with|some l=>C9 n l n|none=>none):=by
  simp only[kV,C9];cases gL x<;>rfl
@[simp] theorem aVb{n:Nat}{x:Option PD}:kV n none (some x)=(match gL x with|some h=>C9 n 0 h|none=>none):=by
  simp only[kV,C9];cases gL x<;>rfl
@[simp] theorem aVc{n:Nat}{x y:Option PD}:kV n (some x) (some y)=(match gL y,gL x with|some h,some l=>C9 n l h|_,_=>none):=by
  simp only[kV,C9];cases gL x<;>cases gL y<;>rfl
def HR(n size:Nat)(xs:List PD)(tok:Tok)(lh:Option (Nat×Nat)):Option PD:=
 match lh with
 |some (l,h)=>if xs.length=0\/n=size then some (.slice size ((xs.drop l).take (h-l))
      (if h=xs.length then(match tok with|.full=>.full|.own id=>if l=0 then .own id else .any|_=>.any)else .any))else none
 |none=>none
def UF(s:List UInt8)(lh:Option (Nat×Nat)):Option PD:=
 match lh with
 |some (l,h)=>some (.str ((s.drop l).take (h-l)))
 |none=>none
@[simp] theorem aVd{n size l h:Nat}{xs:Jq}(hs:xs=[]\/n=size):HR n size xs .any (some (l,h))=some (.slice size ((xs.drop l).take (h-l)) .any):=by
  have hx:xs.length=0\/n=size:=hs.imp (λh=>Eb) (λh=>h);simp only[HR,hx,yAK,ite_self]
@[simp] theorem aVe{s:Jr}{l h:Nat}:UF s (some (l,h))=some (.str ((s.drop l).take (h-l))):=rfl
@[simp] theorem aVf{t:TypeId}{s:Jr}{lo hi:Option (Option PD)}:kU P t (.str s) lo hi none=(match P.underlying t with
  |some .string=>UF s (kV s.length lo hi)
  |_=>none):=by
  unfold kU UF;cases hu:P.underlying t with
  |none=>rfl
  |some d=>cases d<;>simp only[Option.isSome_none,yAx,yAN]<;>rfl
@[simp] theorem aVg{t:TypeId}{size:Nat}{xs:Jq}{tok:Tok}{lo hi:Option (Option PD)}:kU P t (.slice size xs tok) lo hi none=(match P.underlying t with
  |some (.slice e)=>(match cM P e with|some n=>HR n size xs tok (kV xs.length lo hi)|none=>none)
  |_=>none):=by
  unfold kU HR;cases hu:P.underlying t with
  |none=>rfl
  |some d=>
   cases d<;>simp only<;>try rfl
   cases cM P _<;>simp only
   cases kV xs.length lo hi<;>simp only
   split<;>rfl
@[simp] theorem aVh{t:TypeId}{id off m size:Nat}{lo hi:Option (Option PD)}:kU P t (.dU id off m size) lo hi none=(match P.underlying t with
  |some (.slice e)=>(match cM P e with|some n=>(match kV m lo hi with|some (l,h)=>if n=size/\(l=0\/l<m)then some (.dU id (off+l*n) (h-l) n)else none|none=>none)|none=>none)
  |_=>none):=by
  unfold kU;cases hu:P.underlying t with
  |none=>rfl
  |some d=>
   cases d<;>simp only<;>try rfl
   cases cM P _<;>simp only
   cases kV m lo hi<;>simp only
end
section
variable{α:Type}
def St(B:List aA)(e:TypeId)(k n:Nat):List aA:=B++(if n=0 then []else [.own e k n])
def iM(id n:Nat):Tok:=if n=0 then .full else .own id
@[simp] theorem UG{B:Jp}{e:TypeId}{k n i:Nat}(h:i<B.length):(St B e k n)[i]?=B[i]?:=by
  unfold St;rw[yAg h]
@[simp] theorem aVi{B:Jp}{e:TypeId}{k n i:Nat}{o:aA}(h:i<B.length):(St B e k n).set i o=St (B.set i o) e k n:=by
  unfold St;rw[yDY _ _ h]
@[simp] theorem aVj{B:Jp}{e:TypeId}{k:Nat}:St B e k 0=B:=by simp[St]
@[simp] theorem aVk{id:Nat}:iM id 0=.full:=rfl
theorem aIa{P:Program}{fl:Nat}{B:Jp}{t e:TypeId}{i:TypeInfo}{z:Value}{n s:Nat}{xs:Jq}{p:PD}{tk:Tok}(hu:P.underlying t=some (.slice e))(hi:P.info? e=some i)(hz:i.zero=some z)(hzs:z.cells.size=i.size)
  (h0:0<i.size) (hs:xs=[]\/s=i.size) (hn:xs.length=n) (hfl:fl<=B.length) (hm:xs.length+1<=maxLen) (hb:(xs.length+1)*i.bytes<=140737488355328) :
  kK P fl (St B e i.size n) t (.slice s xs (iM B.length n)) (.slice i.size [p] tk)=some (.slice i.size (xs++[p]) (iM B.length (n+1)),St B e i.size (n+1)):=by
 subst hn;have hs':xs.length=0\/s=i.size:=hs.imp (λh=>Eb) (λh=>h);have h1:[p].length=1:=rfl;simp only[kK,hu,hi,hz,h1,hs',h0,hzs,hm,hb,yCi,yBy,yAK,Nat.one_ne_zero,yAN];cases xs with
 |nil=>simp[iM,St]
 |cons x xs=>
  have hs2:s=i.size:=by simpa using hs
  subst hs2;simp[iM,St,hfl]
def lL(P:Program)(e:TypeId):Option (Nat×Nat):=match P.info? e with
 |some i=>match i.zero with
  |some z=>if z.cells.size=i.size/\0<i.size then some (i.size,i.bytes)else none
  |none=>none
 |none=>none
theorem aIb{P:Program}{fl:Nat}{B:Jp}{t e:TypeId}{k b n s id:Nat}{xs:Jq}{p:PD}{tk:Tok}(hu:P.underlying t=some (.slice e))(hi:lL P e=some (k,b))
  (hs:xs=[]\/s=k) (hn:xs.length=n) (hid:id=B.length) (hfl:fl<=B.length) (hm:xs.length+1<=maxLen) (hb:(xs.length+1)*b<=140737488355328) :
  kK P fl (St B e k n) t (.slice s xs (iM id n)) (.slice k [p] tk)=some (.slice k (xs++[p]) (iM id (n+1)),St B e k (n+1)):=by
 unfold lL at hi;split at hi
 .rename_i i h1;split at hi
  .rename_i z h2;split at hi
   .rename_i h3;simp only[yAb,yAc]at hi;obtain⟨rfl,rfl⟩:=hi;subst hid;exact aIa hu h1 h2 h3.1 h3.2 hs hn hfl hm hb
   .cases hi
  .cases hi
 .cases hi
attribute [simp] oV
def UH(P:Program)(e:TypeId)(k n:Nat):Prop:=match lL P e with
 |some (k',b)=>k'=k/\n*b<=140737488355328
 |none=>False
attribute [simp] UH
@[simp] theorem aVl{P:Program}{fl:Nat}{B:Jp}{t e:TypeId}{k n s id:Nat}{xs:Jq}{p:PD}{tk:Tok}(hu:P.underlying t=some (.slice e))(hi:UH P e k (xs.length+1))
  (hs:xs=[]\/s=k) (hn:n=xs.length) (hid:id=B.length) (hfl:fl<=B.length) (hm:xs.length+1<=100000000000000) :
  kK P fl (St B e k n) t (.slice s xs (iM id n)) (.slice k [p] tk)=some (.slice k (xs++[p]) (iM id (n+1)),St B e k (n+1)):=by
  unfold UH at hi;split at hi
  .rename_i k' b h1;obtain⟨rfl,h2⟩:=hi;exact aIb hu h1 hs hn.symm hid hfl Dj h2
  .cases hi
attribute [simp] uX
end
end
section
section
variable{P:Program}{E:aE}{rd:Option Nat}{fl:Nat}{fr:Jq}{ms:List Nat}{σ:Jp}{Q:PO->Prop}{ops:Ju}
structure aK (P:Program) (E:aE) (fl:Nat) (f:FuncId ⊕ Nat) (args:List PD) (σ:List aA) (R:PD->List aA->Prop):Prop where
 ex:∃p σ',nQ P E fl f args σ p σ'/\R p σ'
theorem aK.mono{f:FuncId ⊕ Nat}{args:Jq}{R R':PD->List aA->Prop}(h:aK P E fl f args σ R)(k:∀p σ',R p σ'->R' p σ'):aK P E fl f args σ R':=by
 obtain⟨p,σ',h1,h2⟩:=h.ex;exact⟨p,σ',h1,k _ _ h2⟩
structure UC (P:Program) (E:aE) (fl:Nat) (ops:Array Oper) (l:List (Bool×Oper)) (fr:List PD) (σ:List aA) (R:List PD->List aA->Prop):Prop where
 ex:∃N fr' σ',(∀n,N<=n->oT P (fA P E n) fl ops l fr σ=some (fr',σ'))/\R fr' σ'
inductive FD (P:Program) (E:aE) (fl id:Nat) (K:List aA->Prop):List (List PD)->List aA->List aA->Prop
 |nil {σ:Jp}:K σ->FD P E fl id K [] σ σ
 |more {a:Jq} {rest:Jn} {σ σ1 σ2:Jp}:K σ->nQ P E fl (.inr id) a σ (.bool true) σ1->FD P E fl id K rest σ1 σ2->FD P E fl id K (a::rest) σ σ2
 |stop {a:Jq} {rest:Jn} {σ σ1:Jp}:K σ->nQ P E fl (.inr id) a σ (.bool false) σ1->FD P E fl id K (a::rest) σ σ1
structure UA (P:Program) (E:aE) (fl id:Nat) (K:List aA->Prop) (items:List (List PD)) (σ:List aA) (R:List aA->Prop):Prop where
 ex:∃σ2,FD P E fl id K items σ σ2/\R σ2
theorem aK.body{f:FuncId}{fn:Func}{c:Code}{args:Jq}{R:PD->List aA->Prop}(hE:E f=none)(hf:P.funcs[f]?=some fn)(hb:fn.body=some c)
  (h:Wp P E none c fl (args++List.replicate (fn.ntmps-args.length) (.aH [])) [] σ (λr=>∃p1 σ1,bQ P fl fn r=some (p1,σ1)/\R p1 σ1)):aK P E fl (.inl f) args σ R:=by
 exact xp
end
def O7(ops:Array Oper):Bool:=(flags ops 0 ops.toList).all λx=>x.1
theorem UD{P:Program}{call:cY}{fl:Nat}{ops:Ju}:∀(l:List (Bool×Oper)) (fr:List PD) (σ:List aA),l.all (λx=>x.1)=true->oT P call fl ops l fr σ=fI P call fl ops (l.map Prod.snd) fr σ
 | [],_,_,_=>rfl
 |(free,o)::l,fr,σ,h=>by
  simp only[yCh,yAr]at h;obtain⟨h1,h2⟩:=h;subst h1;simp only[fI,oT,yAW];split
  .cases cZ P call fl fr σ o.op with
   |none=>rfl
   |some q=>obtain⟨p,σ'⟩:=q;simp only;exact UD l _ _ h2
  .exact UD l _ _ h2
theorem aBC(ops:Array Oper):∀(l:List Oper) (i:Nat),(flags ops i l).map Prod.snd=l
 | [],_=>rfl
 |o::l,i=>by simp only[flags,yAW,aBC ops l (i+1)]
theorem aH5{P:Program}{call:cY}{fl:Nat}{ops:Ju}(hs:(HM ops&&O7 ops)=true)(fr:List PD)(σ:List aA):nS P call fl ops fr σ=fI P call fl ops ops.toList fr σ:=by
 simp only[yAr]at hs;rw[aBD hs.1,UD _ _ _ hs.2,aBC]
def aJ(E:aE):Prop:=∀f g args p,E f=some g->g 0 args []=some (p,[])->∀fl σ,g fl args σ=some (p,σ)
def l7(E:aE):cY
 |_,.inl f,args,σ=>match E f with
  |some g=>match g 0 args []with
   |some (p,[])=>some (p,σ)
   |_=>none
  |none=>none
 |_,.inr _,_,_=>none
def xJ(ops:Array Oper):Bool:=ops.toList.all λo=>match o.op with
 |.box ..=>false
 |.call { callee:=.builtin .append,.. }=>false
 |.call { callee:=.builtin .copy,.. }=>false
 |_=>true
theorem OX{P:Program}{E:aE}(hU:aJ E){fl eY:Nat}{fr:Jq}{σ:Jp}{op:Op}{x:PD×Jp}(hop:(match op with
 |.box ..=>false
 |.call { callee:=.builtin .append,.. }=>false
 |.call { callee:=.builtin .copy,.. }=>false
 |_=>true)=true) (hm:dR op=true) (h:cZ P (l7 E) fl fr σ op=some x):cZ P (gU E) eY fr σ op=some x/\x.2=σ:=by
 unfold cZ at *;cases hc:iU fr op with
 |some q=>
  obtain⟨tg,args⟩:=q;simp only[hc]at h ⊢;cases tg with
  |inr id=>cases h
  |inl f=>
   simp only[l7]at h;split at h
   .rename_i g hg;split at h
    .rename_i p hp;simp only[yAb]at h;subst h;simp only[gU,hg];exact⟨hU f g args p hg hp eY σ,by trivial⟩
    .cases h
   .cases h
 |none=>
  exact gp
theorem aBE{P:Program}{call call':cY}{fl:Nat}{fr:Jq}{σ:Jp}{op:Op}(hm:dR op=false):cZ P call fl fr σ op=cZ P call' fl fr σ op:=by
 unfold cZ;have:iU fr op=none:=by
  cases op with
  |call c=>
   obtain⟨callee,args,ts⟩:=c;cases callee with
   |value f=>simp[dR]at hm
   |invoke r m=>rfl
   |builtin b=>rfl
  |_=>rfl
 rw[this]
theorem KW{P:Program}{E:aE}(hU:aJ E){fl:Nat}{ops:Ju}:∀(l:List Oper) (i:Nat) (fr:List PD) (σ:List aA) (x:Jq×List aA),l.all (λo=>match o.op with
 |.box ..=>false
 |.call { callee:=.builtin .append,.. }=>false
 |.call { callee:=.builtin .copy,.. }=>false
 |_=>true)=true->fI P (l7 E) fl ops l fr σ=some x->oT P (gU E) fl ops (flags ops i l) fr σ=some x
 | [],_,_,_,_,_,h=>h
 |o::l,i,fr,σ,x,ho,h=>by
  simp only[yCh,yAr]at ho;simp only[fI]at h;simp only[flags,oT];split at h
  .rename_i hw;rw[yAJ hw];split at h
   .rename_i p σ1 hp;cases hm:dR o.op with
    |false=>
     rw[aBE (call':=gU E) hm]at hp;simp only[yCu,yDr,hp];exact qq
    |true=>
     cases yX ops i with
     |true=>
      have:=(OX hU (eY:=fl) ho.1 hm hp).1;simp only[Bool.or_true,this];exact qq
     |false=>
      obtain⟨e1,e2⟩:=OX hU (eY:=max fl σ.length) ho.1 hm hp;simp only at e2;subst e2;simp only[yBQ,Bool.or_self,e1,yCD,yAl];exact qq
   .cases h
  .rename_i hw;rw[yAI hw];exact qq
theorem aJ.entry{E:aE}(hU:aJ E){f:FuncId}{g:List PD->Option PD}:aJ (E.add f (entry g)):=by
 intro f' g' args p hE h fl σ;unfold aE.add at hE;split at hE
 .simp only[yAb]at hE;subst hE;unfold Go.Kz.entry at h ⊢;cases hg:g args with
  |none=>simp only[hg]at h;cases h
  |some q=>
   simp only[hg,yAb,yAc,yBk]at h;subst h;rfl
 .exact hU f' g' args p hE h fl σ
theorem aJ.none:aJ (λ_=>Option.none):=λ_ _ _ _ h=>Co
theorem aJ.other{E:aE}(hU:aJ E){f:FuncId}{g:Jk}(hg:∀args p,g 0 args []≠some (p,[])):aJ (E.add f g):=by
 intro f' g' args p hE h fl σ;unfold aE.add at hE;split at hE
 .simp only[yAb]at hE;subst hE;exact absurd h (hg _ _)
 .exact hU f' g' args p hE h fl σ
def force{α:Type}(n:Nat)(f:Nat->α):α:=match n with|0=>f 0|k+1=>f (k+1)
theorem force_eq{α:Type}(n:Nat)(f:Nat->α):force n f=f n:=by cases n<;>rfl
def O8{α:Type}:List Nat->Nat->(List Nat->α)->α
 | [],m,f=>f [m]
 |x::xs,m,f=>O8 xs m λys=>f (x::ys)
theorem aBF{α:Type}:∀(l:List Nat) (m:Nat) (f:List Nat->α),O8 l m f=f (l++[m])
 | [],_,_=>rfl
 |x::xs,m,f=>by rw[O8,aBF xs];rfl
def tI{α:Type}:List Oper->List Nat->(List Nat->α)->α
 | [],acc,f=>f acc
 |o::r,acc,f=>force (y5 acc o) λm=>O8 acc m λacc'=>tI r acc' f
theorem oU{α:Type}:∀(l:List Oper) (acc:List Nat) (f:List Nat->α),tI l acc f=f (cP l acc)
 | [],_,_=>rfl
 |o::r,acc,f=>by rw[tI,force_eq,aBF,oU r];rfl
def wG(ops:Array Oper):Bool:=tI ops.toList [] λms=>
 wI ops ms&&ops.toList.all (λo=>!dA o.op) &&
 (List.range ops.size).all λk=>!eR fX ops.toList k||(List.range ops.size).all λi=>!eR eJ ops.toList i||!loose ms i k
theorem OY(ops:Array Oper):wG ops=HM ops:=by rw[wG,oU];rfl
def HJ(ops:Array Oper):Bool:=tI ops.toList [] λms=>
 (List.range ops.size).all λi=>!eR dR ops.toList i||kT ops.toList ms i
theorem aH6{ops:Ju}(h:HJ ops=true):O7 ops=true:=by
 rw[HJ,oU]at h;simp only[yAn,yAS,yBu,yBv]at h;unfold O7;have key:∀(l:List Oper) (i:Nat),ops.toList.drop i=l->(flags ops i l).all (λx=>x.1)=true:=by
  intro l
  induction l with
  |nil=>intro _ _;rfl
  |cons o r ih=>
   intro i hd;have ho:ops.toList[i]?=some o:=by
    exact Ab
   have hd':ops.toList.drop (i+1)=r:=Ib;have hi:i<ops.size:=by
    have:=(yA.1 ho).1;exact cw
   simp only[flags,yCh,yAr,yBu,yBv];refine⟨?_,ih (i+1) hd'⟩;have:=h i hi;rw[eR,ho]at this;simpa [yX]using this
 exact key _ 0 Ck
theorem aH7{ops:Ju}(h:(wG ops&&HJ ops)=true):(HM ops&&O7 ops)=true:=by
 simp only[yAr,OY]at h ⊢;exact⟨h.1,aH6 h.2⟩
section
variable{P:Program}{E:aE}{rd:Option Nat}{fl:Nat}{fr:Jq}{ms:List Nat}{σ:Jp}{Q:PO->Prop}{ops:Ju}
theorem Wp.EZ{id:Nat}{aX:Jq}{σ1:Jp}(hs:(wG ops&&HJ ops)=true)(h:fI P (gU E) fl ops ops.toList fr σ=some (aX,σ1))(k:Q ⟨.normal,aX,ms,σ1⟩):Wp P E rd (.region id ops true) fl fr ms σ Q:=
 ⟨_,.draw (N:=0) (λ_ _=>by rw[aH5 (aH7 hs)];exact O9 h),k⟩
theorem Wp.CY{id:Nat}{aX:Jq}{σ1:Jp}(hU:aJ E)(hs:(wG ops&&xJ ops)=true)(h:fI P (l7 E) fl ops ops.toList fr σ=some (aX,σ1))(k:Q ⟨.normal,aX,ms,σ1⟩):Wp P E rd (.region id ops true) fl fr ms σ Q:=by
 simp only[yAr,OY]at hs;exact .draw hs.1 (KW hU _ 0 _ _ _ hs.2 h) k
end
attribute [simp] KX FE l7
end
section
def tn{n:Nat}(b:BitVec n):Int:=(b.toNat:Int)
def Em.aH3:Em (BitVec 64):=(Em.int .u64).nK tn (λ_ _ h=>yDX Gu)
def Em.aH4:Em (BitVec 16):=(Em.int .u16).nK tn (λ_ _ h=>yDX Gu)
def Em.bv8:Em (BitVec 8):=(Em.int .u8).nK tn (λ_ _ h=>yDX Gu)
@[simp] theorem aT7{b:BitVec 64}:Em.aH3.aB b=.int .u64 (tn b):=rfl
@[simp] theorem aT8{b:BitVec 16}:Em.aH4.aB b=.int .u16 (tn b):=rfl
@[simp] theorem aT9{b:BitVec 8}:Em.bv8.aB b=.int .u8 (tn b):=rfl
section
variable{a b:BitVec 64}
end
end
section
structure SQ (P:Program) (call:cY) (fl:Nat) (ops:Array Oper) (l:List Oper) (fr:List PD) (σ:List aA) (K:List PD->List aA->Prop):Prop where
 ex:∃fr' σ',fI P call fl ops l fr σ=some (fr',σ')/\K fr' σ'
def lk:List PD->Nat->Option PD
 | [],_=>none
 |x::_,0=>some x
 |_::xs,n+1=>lk xs n
def cU(fr:List PD):Operand->Option PD
 |.tmp t=>lk fr t
 |.const v=>ofValue v
 |.func f=>some (.func f [])
 |.global g=>match AT g with
   |some ds=>some (.fK ds 0)
   |none=>none
def A0(fr:List PD):List Operand->Option (List PD)
 | []=>some []
 |x::xs=>match cU fr x,A0 fr xs with
  |some p,some ps=>some (p::ps)
  |_,_=>none
def BB(fr:List PD):List (Nat×Operand)->Option (List (Nat×PD))
 | []=>some []
 |(i,x)::r=>match cU fr x,BB fr r with
  |some p,some ps=>some ((i,p)::ps)
  |_,_=>none
def A1(fr:List PD):Option Operand->Option (Option (Option PD))
 |none=>some none
 |some x=>match cU fr x with
  |some p=>some (some (some p))
  |none=>none
theorem O5:∀(fr:List PD) (t:Nat),lk fr t=fr[t]?
 | [],_=>by simp[lk]
 |_::_,0=>by simp[lk]
 |_::xs,n+1=>by simp[lk,O5 xs n]
theorem fJ{fr:Jq}{x:Operand}{p:PD}(h:cU fr x=some p):bD fr x=some p:=by
 cases x with
 |tmp t=>
  simp only[cU,O5]at h;simp only[bD,yAA,h,yDq]
 |_=>exact h
theorem O6{fr:Jq}:∀ {xs:List Operand} {ps:Jq},A0 fr xs=some ps->lM fr xs=some ps
 | [],_,h=>h
 |x::xs,ps,h=>by
  simp only[A0]at h;split at h
  .rename_i p qs h1 h2;simp only[lM,fJ h1,O6 h2];exact h
  .cases h
theorem KT{fr:Jq}:∀ {xs:List (Nat×Operand)} {ps:List (Nat×PD)},BB fr xs=some ps->rI fr xs=some ps
 | [],_,h=>h
 |(i,x)::xs,ps,h=>by
  simp only[BB]at h;split at h
  .rename_i p qs h1 h2;simp only[rI,fJ h1,KT h2];exact h
  .cases h
theorem UB{fr:Jq}{x:Option Operand}{p:Option (Option PD)}(h:A1 fr x=some p):x.map (bD fr)=p:=by
 cases x with
 |none=>simpa [A1]using h
 |some x=>
  simp only[A1]at h;split at h
  .rename_i q hq;simp only[yAb]at h;subst h;show some (bD fr x)=_
   rw[fJ hq]
  .cases h
section
variable{P:Program}{E:aE}{call:cY}{rd:Option Nat}{fl:Nat}{fr aX:Jq}{ms:List Nat}{σ σ1:Jp}{Q:PO->Prop}{ops:Ju}{K:List PD->List aA->Prop}{l:List Oper}{dst:Option Tmp}
 {ty:TypeId} {pos:String} {edges:Array Edge} {guard:Option (Nat×Bool)} {t:TypeId} {x y:Operand} {p q r:PD}
theorem SQ.nil(h:K fr σ):SQ P call fl ops [] fr σ K:=⟨fr,σ,rfl,h⟩
theorem SQ.step{o:Oper}(hw:Region.wanted o (cH ops fr)=true)(h:cZ P call fl fr σ o.op=some (p,σ1))(k:SQ P call fl ops l (bC fr o.dst p) σ1 K):SQ P call fl ops (o::l) fr σ K:=by
 obtain⟨fr',σ',h1,h2⟩:=k.ex;exact⟨fr',σ',by simp only[fI,hw,yAK,h,h1],h2⟩
theorem SQ.pass{o:Oper}(hw:Region.wanted o (cH ops fr)=false)(hf:bC fr o.dst (.aH [])=aX)(k:SQ P call fl ops l aX σ K):SQ P call fl ops (o::l) fr σ K:=by
 subst hf;obtain⟨fr',σ',h1,h2⟩:=k.ex;exact⟨fr',σ',by simp only[fI,hw,yAx,yAN,h1],h2⟩
theorem rJ{op:Op}(hc:iU fr op=none)(h:eP P fr op=some p):cZ P call fl fr σ op=some (p,σ):=by
 unfold cZ pop;rw[hc,h]
theorem yZ{op:Op}(hc:iU fr op=none)(hv:eP P fr op=none)(h:dE P fl fr σ op=some (p,σ1)):cZ P call fl fr σ op=some (p,σ1):=by
 unfold cZ pop;rw[hc];simp only[hv];exact h
theorem SQ.move(hw:Region.wanted ⟨dst,.move x,ty,pos,edges,guard⟩ (cH ops fr)=true)(hx:cU fr x=some p)(hf:bC fr dst p=aX)(k:SQ P call fl ops l aX σ K):SQ P call fl ops (⟨dst,.move x,ty,pos,edges,guard⟩::l) fr σ K:=
 .step hw (rJ rfl (fJ hx)) (hf▸k)
theorem SQ.assign(hw:Region.wanted ⟨dst,.assign x,ty,pos,edges,guard⟩ (cH ops fr)=true)(hx:cU fr x=some p)(hf:bC fr dst p=aX)(k:SQ P call fl ops l aX σ K):SQ P call fl ops (⟨dst,.assign x,ty,pos,edges,guard⟩::l) fr σ K:=
 .step hw (rJ rfl (fJ hx)) (hf▸k)
theorem SQ.pick{c:Operand}{b:Bool}(hw:Region.wanted ⟨dst,.pick c x y,ty,pos,edges,guard⟩ (cH ops fr)=true)(hc:cU fr c=some (.bool b))(hx:cond b (cU fr x) (cU fr y)=some p)(hf:bC fr dst p=aX)(k:SQ P call fl ops l aX σ K) :
  SQ P call fl ops (⟨dst,.pick c x y,ty,pos,edges,guard⟩::l) fr σ K:=
 .step hw (rJ rfl (by simp only[eP,fJ hc];cases b<;>exact fJ hx)) (hf▸k)
theorem SQ.binOp{op:BinOp}{u:TypeId}(hw:Region.wanted ⟨dst,.binOp op t x y u,ty,pos,edges,guard⟩ (cH ops fr)=true)(hx:cU fr x=some p)(hy:cU fr y=some q)(hr:eI P op t p q=some r)(hf:bC fr dst r=aX)(k:SQ P call fl ops l aX σ K) :
  SQ P call fl ops (⟨dst,.binOp op t x y u,ty,pos,edges,guard⟩::l) fr σ K:=
 .step hw (rJ rfl Hh) (hf▸k)
theorem aH2{op:BinOp}{e:TypeId}{b:Bool}{u:TypeId}(hx:cU fr x=some p)(hu:P.underlying t=some (.slice e))(hb:iJ p=some b)(ho:op=.eql\/op=.neq) :
  eP P fr (.binOp op t x (.const (.slice none 0 0)) u)=some (.bool (if op=.eql then b else !b)):=by
 have hy:bD fr (.const (.slice none 0 0))=some (.slice 0 [] .full):=rfl;simp only[eP,fJ hx,hy];have hn:eI P op t p (.slice 0 [] .full)=none:=by
  unfold iJ at hb;rcases ho with rfl|rfl
  all_goals
   split at hb
   .simp[eI,qN,mI,hu]
   .simp[eI,qN,mI,hu]
   .simp[eI,qN,mI,hu]
   .cases hb
 rw[hn];rcases ho with rfl|rfl<;>simp[C6,hu,hb]
theorem SQ.yV{e:TypeId}{b:Bool}{u:TypeId}(hw:Region.wanted ⟨dst,.binOp .eql t x (.const (.slice none 0 0)) u,ty,pos,edges,guard⟩ (cH ops fr)=true)(hx:cU fr x=some p)(hu:P.underlying t=some (.slice e))(hb:iJ p=some b)(hf:bC fr dst (.bool b)=aX)(k:SQ P call fl ops l aX σ K) :
  SQ P call fl ops (⟨dst,.binOp .eql t x (.const (.slice none 0 0)) u,ty,pos,edges,guard⟩::l) fr σ K:=
 .step hw (rJ rfl (aH2 hx hu hb (.inl rfl))) (hf▸k)
theorem SQ.make{e:TypeId}{k1 k2:IntKind}{a b:Int}(hw:Region.wanted ⟨dst,.makeSlice t x y,ty,pos,edges,guard⟩ (cH ops fr)=true)(hx:cU fr x=some (.int k1 a))(hy:cU fr y=some (.int k2 b))(hu:P.underlying t=some (.slice e))(ha:0<=a/\0<=b)
  (hr:tM P σ t e a.toNat b.toNat=some (r,σ1)) (hf:bC fr dst r=aX) (k:SQ P call fl ops l aX σ1 K):SQ P call fl ops (⟨dst,.makeSlice t x y,ty,pos,edges,guard⟩::l) fr σ K:=
 .step hw (yZ rfl rfl (by simp only[dE,fJ hx,fJ hy,hu,gL,ha.1,ha.2,yAK,hr])) (hf▸k)
theorem SQ.unOp{op:UnOp}(hw:Region.wanted ⟨dst,.unOp op t x,ty,pos,edges,guard⟩ (cH ops fr)=true)(hx:cU fr x=some p)(hr:HK op p=some r)(hf:bC fr dst r=aX)(k:SQ P call fl ops l aX σ K) :
  SQ P call fl ops (⟨dst,.unOp op t x,ty,pos,edges,guard⟩::l) fr σ K:=
 .step hw (rJ rfl Ga) (hf▸k)
def O4(P:Program)(u t:TypeId)(p:PD):Option PD:=if FC u t=true then KU P u t p else KV P u t p
attribute [simp] O4
theorem SQ.convert{u:TypeId}(hw:Region.wanted ⟨dst,.convert u t x,ty,pos,edges,guard⟩ (cH ops fr)=true)(hx:cU fr x=some p)(hr:O4 P u t p=some r)(hf:bC fr dst r=aX)(k:SQ P call fl ops l aX σ K) :
  SQ P call fl ops (⟨dst,.convert u t x,ty,pos,edges,guard⟩::l) fr σ K:=
 .step hw (by
  unfold O4 at hr;unfold cZ pop;simp only[iU,eP,fJ hx];split at hr
  .rename_i hc;rw[yAJ hc];simp only[dE,fJ hx,hr];rw[yAJ hc]
  .rename_i hc;rw[yAI hc,hr]) (hf▸k)
theorem SQ.makeFunc{f:FuncId}{cap:Array Operand}{cs:Jq}(hw:Region.wanted ⟨dst,.makeFunc (.func f) #[] cap,ty,pos,edges,guard⟩ (cH ops fr)=true)(hx:A0 fr cap.toList=some cs)(hf:bC fr dst (.func f cs)=aX)(k:SQ P call fl ops l aX σ K) :
  SQ P call fl ops (⟨dst,.makeFunc (.func f) #[] cap,ty,pos,edges,guard⟩::l) fr σ K:=
 .step hw (rJ rfl (by simp[eP,O6 hx])) (hf▸k)
theorem SQ.slice{lo hi mx:Option Operand}{lo' hi' KS:Option (Option PD)}(hw:Region.wanted ⟨dst,.slice t x lo hi mx,ty,pos,edges,guard⟩ (cH ops fr)=true)(hx:cU fr x=some p)(h1:A1 fr lo=some lo')(h2:A1 fr hi=some hi')(h3:A1 fr mx=some KS)
  (hr:kU P t p lo' hi' KS=some r) (hf:bC fr dst r=aX) (k:SQ P call fl ops l aX σ K):SQ P call fl ops (⟨dst,.slice t x lo hi mx,ty,pos,edges,guard⟩::l) fr σ K:=by
 exact .step hw (rJ rfl (by simp only[eP,fJ hx,UB h1,UB h2,UB h3,hr])) (hf▸k)
theorem SQ.fieldAddr{f:Nat}(hw:Region.wanted ⟨dst,.fieldAddr t x f,ty,pos,edges,guard⟩ (cH ops fr)=true)(hx:cU fr x=some p)(hr:C4 P t p f=some r)(hf:bC fr dst r=aX)(k:SQ P call fl ops l aX σ K) :
  SQ P call fl ops (⟨dst,.fieldAddr t x f,ty,pos,edges,guard⟩::l) fr σ K:=
 .step hw (rJ rfl Ga) (hf▸k)
theorem SQ.field{f:Nat}(hw:Region.wanted ⟨dst,.field t x f,ty,pos,edges,guard⟩ (cH ops fr)=true)(hx:cU fr x=some p)(hr:HL P t p f=some r)(hf:bC fr dst r=aX)(k:SQ P call fl ops l aX σ K) :
  SQ P call fl ops (⟨dst,.field t x f,ty,pos,edges,guard⟩::l) fr σ K:=
 .step hw (rJ rfl Ga) (hf▸k)
theorem SQ.indexAddr(hw:Region.wanted ⟨dst,.indexAddr t x y,ty,pos,edges,guard⟩ (cH ops fr)=true)(hx:cU fr x=some p)(hy:cU fr y=some q)(hr:jD P t p q=some r)(hf:bC fr dst r=aX)(k:SQ P call fl ops l aX σ K) :
  SQ P call fl ops (⟨dst,.indexAddr t x y,ty,pos,edges,guard⟩::l) fr σ K:=
 .step hw (rJ rfl Hh) (hf▸k)
theorem SQ.index(hw:Region.wanted ⟨dst,.index t x y,ty,pos,edges,guard⟩ (cH ops fr)=true)(hx:cU fr x=some p)(hy:cU fr y=some q)(hr:BA P t p q=some r)(hf:bC fr dst r=aX)(k:SQ P call fl ops l aX σ K) :
  SQ P call fl ops (⟨dst,.index t x y,ty,pos,edges,guard⟩::l) fr σ K:=
 .step hw (rJ rfl Hh) (hf▸k)
theorem SQ.extract{i:Nat}{vs:Jq}(hw:Region.wanted ⟨dst,.extract x i,ty,pos,edges,guard⟩ (cH ops fr)=true)(hx:cU fr x=some (.aH vs))(hr:vs[i]?=some r)(hf:bC fr dst r=aX)(k:SQ P call fl ops l aX σ K) :
  SQ P call fl ops (⟨dst,.extract x i,ty,pos,edges,guard⟩::l) fr σ K:=
 .step hw (rJ rfl Ga) (hf▸k)
theorem SQ.build{parts:Array (Nat×Operand)}{ps:List (Nat×PD)}(hw:Region.wanted ⟨dst,.build t parts,ty,pos,edges,guard⟩ (cH ops fr)=true)(hx:BB fr parts.toList=some ps)(hr:FB P t ps=some r)(hf:bC fr dst r=aX)(k:SQ P call fl ops l aX σ K) :
  SQ P call fl ops (⟨dst,.build t parts,ty,pos,edges,guard⟩::l) fr σ K:=
 .step hw (rJ rfl (by simp only[eP,KT hx,hr])) (hf▸k)
theorem SQ.builtin{b:Builtin}{args:Array Operand}{ts:Array TypeId}{ps:Jq}(hw:Region.wanted ⟨dst,.call { callee:=.builtin b,args:=args,argTypes:=ts },ty,pos,edges,guard⟩ (cH ops fr)=true)(hx:A0 fr args.toList=some ps)(hr:gA P b ts ps=some r)
  (hf:bC fr dst r=aX) (k:SQ P call fl ops l aX σ K):SQ P call fl ops (⟨dst,.call { callee:=.builtin b,args:=args,argTypes:=ts },ty,pos,edges,guard⟩::l) fr σ K:=
 .step hw (rJ rfl (by simp only[eP,O6 hx,hr])) (hf▸k)
theorem SQ.load(hw:Region.wanted ⟨dst,.load t x,ty,pos,edges,guard⟩ (cH ops fr)=true)(hx:cU fr x=some p)(hr:qO P σ t p=some r)(hf:bC fr dst r=aX)(k:SQ P call fl ops l aX σ K):SQ P call fl ops (⟨dst,.load t x,ty,pos,edges,guard⟩::l) fr σ K:=
 .step hw (yZ rfl rfl (by simp only[dE,fJ hx,hr])) (hf▸k)
theorem SQ.store(hw:Region.wanted ⟨dst,.store t x y,ty,pos,edges,guard⟩ (cH ops fr)=true)(hx:cU fr x=some p)(hy:cU fr y=some q)(hr:rH P fl σ t p q=some σ1)(hf:bC fr dst (.aH [])=aX)(k:SQ P call fl ops l aX σ1 K) :
  SQ P call fl ops (⟨dst,.store t x y,ty,pos,edges,guard⟩::l) fr σ K:=
 .step hw (yZ rfl rfl (by simp only[dE,fJ hx,fJ hy,hr])) (hf▸k)
theorem SQ.alloc{p':PD}(hw:Region.wanted ⟨dst,.alloc t,ty,pos,edges,guard⟩ (cH ops fr)=true)(hx:fP P t=some p)(hp:p.cells.all PD.plain=true)(hb:boxed t p=p')(hr:σ++[.box p']=σ1){n:Nat}(hn:σ.length=n)(hf:bC fr dst (.ptr n 0)=aX)(k:SQ P call fl ops l aX σ1 K) :
  SQ P call fl ops (⟨dst,.alloc t,ty,pos,edges,guard⟩::l) fr σ K:=by
 subst hb hr hn;exact .step hw (yZ rfl rfl (by simp only[dE,hx,hp,yAK])) (hf▸k)
theorem SQ.box(hw:Region.wanted ⟨dst,.box t x,ty,pos,edges,guard⟩ (cH ops fr)=true)(hx:cU fr x=some p)(hp:p.cells.all PD.plain=true)(hr:σ++[.box p]=σ1){n:Nat}(hn:σ.length=n)(hf:bC fr dst (.ptr n 0)=aX)(k:SQ P call fl ops l aX σ1 K) :
  SQ P call fl ops (⟨dst,.box t x,ty,pos,edges,guard⟩::l) fr σ K:=by
 subst hr hn;exact .step hw (yZ rfl rfl (by simp only[dE,fJ hx,hp,yAK])) (hf▸k)
theorem SQ.buildSlice{len:Nat}{parts:Array (Nat×Operand)}{ps:List (Nat×PD)}(hw:Region.wanted ⟨dst,.buildSlice t len parts,ty,pos,edges,guard⟩ (cH ops fr)=true)(hx:BB fr parts.toList=some ps)(hr:uX P t len (ps.map λq=>(q.1,q.2.strip))=some r)
  (hf:bC fr dst r=aX) (k:SQ P call fl ops l aX σ K):SQ P call fl ops (⟨dst,.buildSlice t len parts,ty,pos,edges,guard⟩::l) fr σ K:=
 .step hw (yZ rfl rfl (by simp only[dE,KT hx,hr])) (hf▸k)
theorem SQ.append(hw:Region.wanted ⟨dst,.call { callee:=.builtin .append,args:=#[x,y],argTypes:=#[t,t] },ty,pos,edges,guard⟩ (cH ops fr)=true)(hx:cU fr x=some p)(hy:cU fr y=some q)
  (hr:(if iK t fr.length=true then dM P fr.length fl σ t p q else kK P fl σ t p q.strip)=some (r,σ1)) (hf:bC fr dst r=aX) (k:SQ P call fl ops l aX σ1 K):SQ P call fl ops (⟨dst,.call { callee:=.builtin .append,args:=#[x,y],argTypes:=#[t,t] },ty,pos,edges,guard⟩::l) fr σ K:=by
 refine .step hw (yZ rfl ?_ ?_) (hf▸k)
 .simp only[eP,lM,fJ hx,fJ hy,gA]
 .simp only[dE,lM,fJ hx,fJ hy,yAK]
  by_cases hm:iK t fr.length=true
  .rw[yAJ hm]at hr;rw[hr]
  .rw[yAI hm]at hr;have:dM P fr.length fl σ t p q=none:=by unfold dM;rw[yAI hm]
   rw[this];exact hr
theorem SQ.yW{g:Operand}{args:Array Operand}{ts:Array TypeId}{f:FuncId}{cap ps:Jq}(hw:Region.wanted ⟨dst,.call { callee:=.value g,args:=args,argTypes:=ts },ty,pos,edges,guard⟩ (cH ops fr)=true)(hg:cU fr g=some (.func f cap))
  (hx:A0 fr args.toList=some ps) (hr:call fl (.inl f) (ps++cap) σ=some (r,σ1)) (hf:bC fr dst r=aX) (k:SQ P call fl ops l aX σ1 K):SQ P call fl ops (⟨dst,.call { callee:=.value g,args:=args,argTypes:=ts },ty,pos,edges,guard⟩::l) fr σ K:=by
 refine .step hw ?_ (hf▸k);simp only[cZ,iU,fJ hg,O6 hx,hr]
theorem aI.xK{f:FuncId}{fn:Func}{c:Code}{args fr:Jq}{p:PD}(hE:E f=none)(hf:P.funcs[f]?=some fn)(hb:fn.body=some c)(hfr:args++List.replicate (fn.ntmps-args.length) (.aH [])=fr)
  (h:Wp P E none c 0 fr [] [] (λr=>∃p1 σ1,bQ P 0 fn r=some (p1,σ1)/\p1.strip=p)):aI P E f args p:=by
 subst hfr;exact aI.body hE hf hb h
theorem aK.xK{f:FuncId}{fn:Func}{c:Code}{args:Jq}{R:PD->List aA->Prop}(hE:E f=none)(hf:P.funcs[f]?=some fn)(hb:fn.body=some c)(hfr:args++List.replicate (fn.ntmps-args.length) (.aH [])=fr)
  (h:Wp P E none c fl fr [] σ (λr=>∃p1 σ1,bQ P fl fn r=some (p1,σ1)/\R p1 σ1)):aK P E fl (.inl f) args σ R:=by
 subst hfr;exact aK.body hE hf hb h
theorem aI.aG{f:FuncId}{fn:Func}{c:Code}{args fr:Jq}{p:PD}(n:Nat)(hE:E f=none)(hf:P.funcs[f]?=some fn)(hb:fn.body=some c:=by rfl)(hn:fn.ntmps=n:=by rfl)(hfr:args++List.replicate (n-args.length) (.aH [])=fr:=by(simp[List.replicate];rfl))
  (h:Wp P E none c 0 fr [] [] (λr=>∃p1 σ1,bQ P 0 fn r=some (p1,σ1)/\p1.strip=p)):aI P E f args p:=by
 subst hn;exact aI.xK hE hf hb hfr h
theorem aK.aG{f:FuncId}{fn:Func}{c:Code}{args fr:Jq}{R:PD->List aA->Prop}(n:Nat)(hE:E f=none)(hf:P.funcs[f]?=some fn)(hb:fn.body=some c:=by rfl)(hn:fn.ntmps=n:=by rfl)(hfr:args++List.replicate (n-args.length) (.aH [])=fr:=by(simp[List.replicate];rfl))
  (h:Wp P E none c fl fr [] σ (λr=>∃p1 σ1,bQ P fl fn r=some (p1,σ1)/\R p1 σ1)):aK P E fl (.inl f) args σ R:=by
 subst hn;exact aK.xK hE hf hb hfr h
theorem Wp.oE{id:Nat}(h:SQ P (gU E) fl ops ops.toList fr σ (λfr' σ'=>Q ⟨.normal,fr',ms,σ'⟩)):Wp P E rd (.region id ops false) fl fr ms σ Q:=by
 obtain⟨fr',σ',h1,h2⟩:=h.ex;exact .region h1 h2
theorem Wp.aHY{id:Nat}(hU:aJ E)(hs:(wG ops&&xJ ops)=true)(h:SQ P (l7 E) fl ops ops.toList fr σ (λfr' σ'=>Q ⟨.normal,fr',ms,σ'⟩)):Wp P E rd (.region id ops true) fl fr ms σ Q:=by
 obtain⟨fr',σ',h1,h2⟩:=h.ex;exact .CY hU hs h1 h2
theorem Wp.aHZ{id:Nat}(hs:(wG ops&&HJ ops)=true)(h:SQ P (gU E) fl ops ops.toList fr σ (λfr' σ'=>Q ⟨.normal,fr',ms,σ'⟩)):Wp P E rd (.region id ops true) fl fr ms σ Q:=by
 obtain⟨fr',σ',h1,h2⟩:=h.ex;exact .EZ hs h1 h2
structure bM (I:Nat->List PD->List aA->Prop) (m:Nat) (ms:List Nat) (Q:PO->Prop) (r:PO):Prop where
 nx:r.x=.normal->r.ms=ms/\∃m',m'<m/\I m' r.fr r.σ
 out:r.x≠.normal->Q r
theorem bM.normal{I:Nat->List PD->List aA->Prop}{m:Nat}(m':Nat)(h:m'<m)(k:I m' fr σ):bM I m ms Q ⟨.normal,fr,ms,σ⟩:=⟨λ_=>⟨rfl,m',h,k⟩,λe=>absurd rfl e⟩
theorem bM.ret{I:Nat->List PD->List aA->Prop}{m:Nat}{ms':List Nat}(h:Q ⟨.ret,fr,ms',σ⟩):bM I m ms Q ⟨.ret,fr,ms',σ⟩:=⟨λe=>Dh,λ_=>h⟩
theorem bM.exit{I:Nat->List PD->List aA->Prop}{m k:Nat}{ms':List Nat}(h:Q ⟨.exit k,fr,ms',σ⟩):bM I m ms Q ⟨.exit k,fr,ms',σ⟩:=⟨λe=>Dh,λ_=>h⟩
theorem Wp.dJ{b:Code}(I:Nat->List PD->List aA->Prop)(h:∀m fr σ,I m fr σ->Wp P E rd b fl fr ms σ (bM I m ms Q)):∀m {fr σ},I m fr σ->Wp P E rd (.loop b) fl fr ms σ Q:=by
 intro m
 induction m using Nat.strongRecOn with
 |ind m ih=>
  intro fr σ hi;refine Wp.loop ((h m fr σ hi).mono λr hr=>⟨λe=>?_,λe=>hr.out e⟩);obtain⟨e1,m',h1,h2⟩:=hr.nx e;rw[e1];exact ih m' h1 h2
end
end
section
section
variable{P:Program}{E:aE}{rd:Option Nat}{fl:Nat}{fr frA:Jq}{ms:List Nat}{σ:Jp}{Q:PO->Prop}
end
end
section
open Go.RowKit Go.ChangeShapes
theorem aF.aH0{P:Program}{E:aE}(hE:aF P E)(hP:P.follows .mixedOrders=true){f:FuncId}{b:Bool}{N:Nat}{σ1:Jp}(h:fA P E N 0 (.inl f) [] []=some (.bool b,σ1)) :
  aF P (E.add f (entry (xI Em.bool (some b)))):=by
 intro F fl f' g' args c vs p σ' hF hg hgo hs hX hv;unfold aE.add at hg;split at hg
 .rename_i e;subst e;simp only[yAb]at hg;subst hg
  match args,hgo,hv with
  | [],hgo,hv=>
    simp only[entry,xI,yAb,yAc]at hgo;obtain⟨rfl,rfl⟩:=hgo;have jL:aY c.bare vs []:=⟨hv.1,λi v d _ h2=>by simp at h2⟩;have:=(C5 hE hP hF N).fn (c:=c.bare) h hs.bare (λ_ _ h=>h.elim) jL;refine⟨this.1,λm=>yCE (this.2 m) λe w' he=>?_⟩;cases e with
    |returned v=>
     obtain⟨c1,rfl,rfl,hs1,nx,hvv,_⟩:=he;have hgr:c.w.grownBy c1.w none:=⟨nx.os,nx.tape,nx.output,nx.size,λk hk _=>nx.frame k hk (λ_ h=>h.elim)⟩;refine⟨c.at c1.w,rfl,rfl,hs.grow hgr,Nx.grow hs hgr,?_,λ_ h=>.inl h⟩;rw[hvv.BC];exact .bool b
    |panicked ch=>exact he.elim
    |outgrown=>exact he.elim
 .exact je
theorem aI.calls{P:Program}{E:aE}(hE:aF P E)(hP:P.follows .mixedOrders=true)(hN:∀(f:FuncId) fn,P.funcs[f]?=some fn->(fn.name== "runtime.NumGoroutine")=false)
  {f:FuncId} {args:Jq} {vs:Jt} {w:World} {b:Bool} (h:aI P E f args (.bool b)) (hg:Gl (.start w)) (hv:aY (.start w) vs.toList args) :
  Calls P f vs w λe w'=>e=.returned (.bool b)/\Below w.heap.size w w':=by
 obtain⟨p1,σ1,⟨N,hN'⟩,hp⟩:=h;have hb:p1=.bool b:=by
  cases p1 with
  |slice n xs tok=>cases xs<;>simp[PD.strip]at hp
  |_=>simpa [PD.strip]using hp
 subst hb;have:=aH1 hE hP hN (hN' N (yAk _)) hg hv;exact cw
section
variable{H:Type}{enc:TypeId×Value->H}{P:Program}
theorem aBB(hl:laidOutB P=true){W W':World}(hb:Below W.heap.size W W'):∀(ts:List TypeId) (vs:List Value) (ds:List (DataW H)) (ps:List MemPlace),(∀t∈ts,P.readableRec t=true/\t<P.types.size)->(∀x∈ps,x.block<W.heap.size) ->
  DataW.TrodAll enc P W 0 (λ_=>true) true ts vs ds ps->DataW.TrodAll enc P W' 0 (λb=>decide (b<W.heap.size)) true ts vs ds ps
 | [],[],[],_,_,_,h=>h
 |t::ts,v::vs,d::ds,ps,ht,hp,h=>by
  obtain⟨p,q,h1,h2,rfl⟩:=h;obtain⟨h3,h4⟩:=ht t Ck;exact⟨p,q,Below.trod hl h3 h4 h1 hb (λx hx=>hp x (by simp[hx])),aBB hl hb ts vs ds q (λt' h'=>ht t' (by simp[h'])) (λx hx=>hp x (by simp[hx])) h2,rfl⟩
 | [],[],_::_,_,_,_,h=>h.elim
 | [],_::_,_,_,_,_,h=>Co
 |_::_,[],_,_,_,_,h=>Co
 |_::_,_::_,[],_,_,_,h=>h.elim
theorem aBj(hl:laidOutB P=true){f:Func}{s:ChangeSpec}{W W':World}{args:Jt}{ds gs:List (DataW H)}{before:List MemPlace}{tb:TypeId}(hvars:s.vars=[])
  (hW:DataW.Whole enc P f.params.toList s.vars false W args.toList ds gs before) (hb:Below W.heap.size W W') (hres:f.resultTypes=#[tb]) (htb:P.underlying tb=some .bool)
  (hps:(f.params.toList.all λt=>P.readableRec t&&decide (t<P.types.size))=true) (hs:∀ds:List (DataW H),gs=[]->ds.length=f.params.size->s.fn H (ds++gs)={ results:=[.lit (.bool true)],args:=ds }) :
  s.post enc P f false true false false W args (.bool true) W':=by
 have HC:=hW;obtain⟨p,q,hA,hV,rfl,hfz,hnd⟩:=hW;rw[hvars]at hV;obtain⟨rfl,rfl⟩:gs=[]/\q=[]:=by
  cases gs with
  |nil=>exact⟨rfl,hV⟩
  |cons g r=>exact absurd hV (by intro h;cases h)
 have hlen:ds.length=f.params.size:=by
  have:∀(ts:List TypeId) (vs:List Value) (ds:List (DataW H)) (ps:List MemPlace),DataW.TrodAll enc P W 0 (λ_=>true) true ts vs ds ps->ds.length=ts.length:=by
   intro ts
   induction ts with
   |nil=>
    intro vs ds ps h;cases vs<;>cases ds<;>first|rfl|(exact h.elim)|cases h
   |cons t ts ih=>
    intro vs ds ps h;cases vs with
    |nil=>cases h
    |cons v vs=>
     cases ds with
     |nil=>exact h.elim
     |cons d ds=>
      obtain⟨p,q,_,h2,_⟩:=h;simp[ih vs ds q h2]
  have:=this _ _ _ _ hA;exact cw
 have e:=hs ds rfl hlen;have hlt:∀x∈p,x.block<W.heap.size:=λx hx=>by simpa using HC.lt x Fc
 refine⟨ds,[],_,[],p,[],HC,?_,?_,?_,hb.frame _,λh=>Co⟩
 .rw[e,hres];exact trodAll_mk1 (shut_bool htb true)
 .rw[e];exact aBB hl hb _ _ _ _ (λt ht=>by simpa using yAn.1 hps t ht) hlt hA
 .rw[e,hvars];rfl
end
end
section
structure By (p:Prop):Prop where
 h:p
structure Fr (p:Prop):Prop where
 h:p
structure Wt (p:Prop):Prop where
 h:p
structure Ns (p:Prop):Prop where
 h:p
theorem By.i{p:Prop}(h:p):By p:=⟨h⟩
theorem Fr.i{p:Prop}(h:p):Fr p:=⟨h⟩
theorem Wt.i{p:Prop}(h:p):Wt p:=⟨h⟩
theorem Ns.i{p:Prop}(h:p):Ns p:=⟨h⟩
section
variable{P:Program}{E:aE}{call:cY}{rd:Option Nat}{fl:Nat}{fr aX:Jq}{ms:List Nat}{σ σ1:Jp}{Q:PO->Prop}{ops:Ju}{K:List PD->List aA->Prop}{l:List Oper}{dst:Option Tmp}
 {ty:TypeId} {pos:String} {edges:Array Edge} {guard:Option (Nat×Bool)} {t:TypeId} {x y:Operand} {p q r:PD}
theorem SL.move(hw:Wt (Region.wanted ⟨dst,.move x,ty,pos,edges,guard⟩ (cH ops fr)=true))(hx:cU fr x=some p)(hf:Fr (bC fr dst p=aX))(k:SQ P call fl ops l aX σ K):SQ P call fl ops (⟨dst,.move x,ty,pos,edges,guard⟩::l) fr σ K:=SQ.move hw.h hx hf.h k
theorem SL.assign(hw:Wt (Region.wanted ⟨dst,.assign x,ty,pos,edges,guard⟩ (cH ops fr)=true))(hx:cU fr x=some p)(hf:Fr (bC fr dst p=aX))(k:SQ P call fl ops l aX σ K):SQ P call fl ops (⟨dst,.assign x,ty,pos,edges,guard⟩::l) fr σ K:=SQ.assign hw.h hx hf.h k
theorem SL.pick{c:Operand}{b:Bool}(hw:Wt (Region.wanted ⟨dst,.pick c x y,ty,pos,edges,guard⟩ (cH ops fr)=true))(hc:cU fr c=some (.bool b))(hx:cond b (cU fr x) (cU fr y)=some p)(hf:Fr (bC fr dst p=aX))(k:SQ P call fl ops l aX σ K) :
  SQ P call fl ops (⟨dst,.pick c x y,ty,pos,edges,guard⟩::l) fr σ K:=SQ.pick hw.h hc hx hf.h k
theorem SL.binOp{op:BinOp}{u:TypeId}(hw:Wt (Region.wanted ⟨dst,.binOp op t x y u,ty,pos,edges,guard⟩ (cH ops fr)=true))(hx:cU fr x=some p)(hy:cU fr y=some q)(hr:By (eI P op t p q=some r))(hf:Fr (bC fr dst r=aX))(k:SQ P call fl ops l aX σ K) :
  SQ P call fl ops (⟨dst,.binOp op t x y u,ty,pos,edges,guard⟩::l) fr σ K:=SQ.binOp hw.h hx hy hr.h hf.h k
theorem SL.yV{e:TypeId}{b:Bool}{u:TypeId}(hw:Wt (Region.wanted ⟨dst,.binOp .eql t x (.const (.slice none 0 0)) u,ty,pos,edges,guard⟩ (cH ops fr)=true))(hx:cU fr x=some p)(hu:By (P.underlying t=some (.slice e)))(hb:By (iJ p=some b))(hf:Fr (bC fr dst (.bool b)=aX))(k:SQ P call fl ops l aX σ K) :
  SQ P call fl ops (⟨dst,.binOp .eql t x (.const (.slice none 0 0)) u,ty,pos,edges,guard⟩::l) fr σ K:=SQ.yV hw.h hx hu.h hb.h hf.h k
theorem SL.make{e:TypeId}{k1 k2:IntKind}{a b:Int}(hw:Wt (Region.wanted ⟨dst,.makeSlice t x y,ty,pos,edges,guard⟩ (cH ops fr)=true))(hx:cU fr x=some (.int k1 a))(hy:cU fr y=some (.int k2 b))(hu:By (P.underlying t=some (.slice e)))(ha:Wt (0<=a/\0<=b))
  (hr:By (tM P σ t e a.toNat b.toNat=some (r,σ1))) (hf:Fr (bC fr dst r=aX)) (k:SQ P call fl ops l aX σ1 K):SQ P call fl ops (⟨dst,.makeSlice t x y,ty,pos,edges,guard⟩::l) fr σ K:=SQ.make hw.h hx hy hu.h ha.h hr.h hf.h k
theorem SL.unOp{op:UnOp}(hw:Wt (Region.wanted ⟨dst,.unOp op t x,ty,pos,edges,guard⟩ (cH ops fr)=true))(hx:cU fr x=some p)(hr:By (HK op p=some r))(hf:Fr (bC fr dst r=aX))(k:SQ P call fl ops l aX σ K) :
  SQ P call fl ops (⟨dst,.unOp op t x,ty,pos,edges,guard⟩::l) fr σ K:=SQ.unOp hw.h hx hr.h hf.h k
theorem SL.convert{u:TypeId}(hw:Wt (Region.wanted ⟨dst,.convert u t x,ty,pos,edges,guard⟩ (cH ops fr)=true))(hx:cU fr x=some p)(hr:By (O4 P u t p=some r))(hf:Fr (bC fr dst r=aX))(k:SQ P call fl ops l aX σ K) :
  SQ P call fl ops (⟨dst,.convert u t x,ty,pos,edges,guard⟩::l) fr σ K:=SQ.convert hw.h hx hr.h hf.h k
theorem SL.makeFunc{f:FuncId}{cap:Array Operand}{cs:Jq}(hw:Wt (Region.wanted ⟨dst,.makeFunc (.func f) #[] cap,ty,pos,edges,guard⟩ (cH ops fr)=true))(hx:A0 fr cap.toList=some cs)(hf:Fr (bC fr dst (.func f cs)=aX))(k:SQ P call fl ops l aX σ K) :
  SQ P call fl ops (⟨dst,.makeFunc (.func f) #[] cap,ty,pos,edges,guard⟩::l) fr σ K:=SQ.makeFunc hw.h hx hf.h k
theorem SL.slice{lo hi mx:Option Operand}{lo' hi' KS:Option (Option PD)}(hw:Wt (Region.wanted ⟨dst,.slice t x lo hi mx,ty,pos,edges,guard⟩ (cH ops fr)=true))(hx:cU fr x=some p)(h1:A1 fr lo=some lo')(h2:A1 fr hi=some hi')(h3:A1 fr mx=some KS)
  (hr:By (kU P t p lo' hi' KS=some r)) (hf:Fr (bC fr dst r=aX)) (k:SQ P call fl ops l aX σ K):SQ P call fl ops (⟨dst,.slice t x lo hi mx,ty,pos,edges,guard⟩::l) fr σ K:=SQ.slice hw.h hx h1 h2 h3 hr.h hf.h k
theorem SL.fieldAddr{f:Nat}(hw:Wt (Region.wanted ⟨dst,.fieldAddr t x f,ty,pos,edges,guard⟩ (cH ops fr)=true))(hx:cU fr x=some p)(hr:By (C4 P t p f=some r))(hf:Fr (bC fr dst r=aX))(k:SQ P call fl ops l aX σ K) :
  SQ P call fl ops (⟨dst,.fieldAddr t x f,ty,pos,edges,guard⟩::l) fr σ K:=SQ.fieldAddr hw.h hx hr.h hf.h k
theorem SL.field{f:Nat}(hw:Wt (Region.wanted ⟨dst,.field t x f,ty,pos,edges,guard⟩ (cH ops fr)=true))(hx:cU fr x=some p)(hr:By (HL P t p f=some r))(hf:Fr (bC fr dst r=aX))(k:SQ P call fl ops l aX σ K) :
  SQ P call fl ops (⟨dst,.field t x f,ty,pos,edges,guard⟩::l) fr σ K:=SQ.field hw.h hx hr.h hf.h k
theorem SL.indexAddr(hw:Wt (Region.wanted ⟨dst,.indexAddr t x y,ty,pos,edges,guard⟩ (cH ops fr)=true))(hx:cU fr x=some p)(hy:cU fr y=some q)(hr:By (jD P t p q=some r))(hf:Fr (bC fr dst r=aX))(k:SQ P call fl ops l aX σ K) :
  SQ P call fl ops (⟨dst,.indexAddr t x y,ty,pos,edges,guard⟩::l) fr σ K:=SQ.indexAddr hw.h hx hy hr.h hf.h k
theorem SL.index(hw:Wt (Region.wanted ⟨dst,.index t x y,ty,pos,edges,guard⟩ (cH ops fr)=true))(hx:cU fr x=some p)(hy:cU fr y=some q)(hr:By (BA P t p q=some r))(hf:Fr (bC fr dst r=aX))(k:SQ P call fl ops l aX σ K) :
  SQ P call fl ops (⟨dst,.index t x y,ty,pos,edges,guard⟩::l) fr σ K:=SQ.index hw.h hx hy hr.h hf.h k
theorem SL.extract{i:Nat}{vs:Jq}(hw:Wt (Region.wanted ⟨dst,.extract x i,ty,pos,edges,guard⟩ (cH ops fr)=true))(hx:cU fr x=some (.aH vs))(hr:vs[i]?=some r)(hf:Fr (bC fr dst r=aX))(k:SQ P call fl ops l aX σ K) :
  SQ P call fl ops (⟨dst,.extract x i,ty,pos,edges,guard⟩::l) fr σ K:=SQ.extract hw.h hx hr hf.h k
theorem SL.build{parts:Array (Nat×Operand)}{ps:List (Nat×PD)}(hw:Wt (Region.wanted ⟨dst,.build t parts,ty,pos,edges,guard⟩ (cH ops fr)=true))(hx:BB fr parts.toList=some ps)(hr:By (FB P t ps=some r))(hf:Fr (bC fr dst r=aX))(k:SQ P call fl ops l aX σ K) :
  SQ P call fl ops (⟨dst,.build t parts,ty,pos,edges,guard⟩::l) fr σ K:=SQ.build hw.h hx hr.h hf.h k
theorem SL.builtin{b:Builtin}{args:Array Operand}{ts:Array TypeId}{ps:Jq}(hw:Wt (Region.wanted ⟨dst,.call { callee:=.builtin b,args:=args,argTypes:=ts },ty,pos,edges,guard⟩ (cH ops fr)=true))(hx:A0 fr args.toList=some ps)(hr:By (gA P b ts ps=some r))
  (hf:Fr (bC fr dst r=aX)) (k:SQ P call fl ops l aX σ K):SQ P call fl ops (⟨dst,.call { callee:=.builtin b,args:=args,argTypes:=ts },ty,pos,edges,guard⟩::l) fr σ K:=SQ.builtin hw.h hx hr.h hf.h k
theorem SL.load(hw:Wt (Region.wanted ⟨dst,.load t x,ty,pos,edges,guard⟩ (cH ops fr)=true))(hx:cU fr x=some p)(hr:By (qO P σ t p=some r))(hf:Fr (bC fr dst r=aX))(k:SQ P call fl ops l aX σ K):SQ P call fl ops (⟨dst,.load t x,ty,pos,edges,guard⟩::l) fr σ K:=SQ.load hw.h hx hr.h hf.h k
theorem SL.store(hw:Wt (Region.wanted ⟨dst,.store t x y,ty,pos,edges,guard⟩ (cH ops fr)=true))(hx:cU fr x=some p)(hy:cU fr y=some q)(hr:By (rH P fl σ t p q=some σ1))(hf:Fr (bC fr dst (.aH [])=aX))(k:SQ P call fl ops l aX σ1 K) :
  SQ P call fl ops (⟨dst,.store t x y,ty,pos,edges,guard⟩::l) fr σ K:=SQ.store hw.h hx hy hr.h hf.h k
theorem SL.alloc{p':PD}(hw:Wt (Region.wanted ⟨dst,.alloc t,ty,pos,edges,guard⟩ (cH ops fr)=true))(hx:By (fP P t=some p))(hp:p.cells.all PD.plain=true)(hb:By (boxed t p=p'))(hr:Ns (σ++[.box p']=σ1)){n:Nat}(hn:Ns (σ.length=n))(hf:Fr (bC fr dst (.ptr n 0)=aX))(k:SQ P call fl ops l aX σ1 K) :
  SQ P call fl ops (⟨dst,.alloc t,ty,pos,edges,guard⟩::l) fr σ K:=SQ.alloc hw.h hx.h hp hb.h hr.h hn.h hf.h k
theorem SL.box(hw:Wt (Region.wanted ⟨dst,.box t x,ty,pos,edges,guard⟩ (cH ops fr)=true))(hx:cU fr x=some p)(hp:p.cells.all PD.plain=true)(hr:Ns (σ++[.box p]=σ1)){n:Nat}(hn:Ns (σ.length=n))(hf:Fr (bC fr dst (.ptr n 0)=aX))(k:SQ P call fl ops l aX σ1 K) :
  SQ P call fl ops (⟨dst,.box t x,ty,pos,edges,guard⟩::l) fr σ K:=SQ.box hw.h hx hp hr.h hn.h hf.h k
theorem SL.buildSlice{len:Nat}{parts:Array (Nat×Operand)}{ps:List (Nat×PD)}(hw:Wt (Region.wanted ⟨dst,.buildSlice t len parts,ty,pos,edges,guard⟩ (cH ops fr)=true))(hx:BB fr parts.toList=some ps)(hr:By (uX P t len (ps.map λq=>(q.1,q.2.strip))=some r))
  (hf:Fr (bC fr dst r=aX)) (k:SQ P call fl ops l aX σ K):SQ P call fl ops (⟨dst,.buildSlice t len parts,ty,pos,edges,guard⟩::l) fr σ K:=SQ.buildSlice hw.h hx hr.h hf.h k
theorem SL.append(hw:Wt (Region.wanted ⟨dst,.call { callee:=.builtin .append,args:=#[x,y],argTypes:=#[t,t] },ty,pos,edges,guard⟩ (cH ops fr)=true))(hx:cU fr x=some p)(hy:cU fr y=some q)
  (hr:By ((if iK t fr.length=true then dM P fr.length fl σ t p q else kK P fl σ t p q.strip)=some (r,σ1))) (hf:Fr (bC fr dst r=aX)) (k:SQ P call fl ops l aX σ1 K):SQ P call fl ops (⟨dst,.call { callee:=.builtin .append,args:=#[x,y],argTypes:=#[t,t] },ty,pos,edges,guard⟩::l) fr σ K:=SQ.append hw.h hx hy hr.h hf.h k
theorem SL.yW{g:Operand}{args:Array Operand}{ts:Array TypeId}{f:FuncId}{cap ps:Jq}(hw:Wt (Region.wanted ⟨dst,.call { callee:=.value g,args:=args,argTypes:=ts },ty,pos,edges,guard⟩ (cH ops fr)=true))(hg:cU fr g=some (.func f cap))
  (hx:A0 fr args.toList=some ps) (hr:By (call fl (.inl f) (ps++cap) σ=some (r,σ1))) (hf:Fr (bC fr dst r=aX)) (k:SQ P call fl ops l aX σ1 K):SQ P call fl ops (⟨dst,.call { callee:=.value g,args:=args,argTypes:=ts },ty,pos,edges,guard⟩::l) fr σ K:=SQ.yW hw.h hg hx hr.h hf.h k
theorem SL.pass{op:Op}{g:Nat×Bool}(hw:Wt (Region.wanted ⟨dst,op,ty,pos,edges,some g⟩ (cH ops fr)=false))(hf:Fr (bC fr dst (.aH [])=aX))(k:SQ P call fl ops l aX σ K):SQ P call fl ops (⟨dst,op,ty,pos,edges,some g⟩::l) fr σ K:=
 SQ.pass (o:=⟨dst,op,ty,pos,edges,some g⟩) hw.h hf.h k
def E7(ops:Array Oper):Bool:=ops.toList.all λo=>match o.op with
 |.call { callee:=.value (.tmp _),.. }=>false
 |_=>true
theorem WL.tH{id:Nat}{y:Code}(_hs:E7 ops=true)(h:SQ P (gU E) fl ops ops.toList fr σ (λfr' σ'=>Wp P E rd y fl fr' ms σ' Q)):Wp P E rd (.seq (.region id ops false) y) fl fr ms σ Q:=by
 obtain⟨fr',σ',h1,h2⟩:=h.ex;exact .seq (.region h1 (.normal h2))
theorem WL.CY{id:Nat}{y:Code}(hU:aJ E)(_hd:E7 ops=true)(hs:(wG ops&&xJ ops)=true)(h:SQ P (l7 E) fl ops ops.toList fr σ (λfr' σ'=>Wp P E rd y fl fr' ms σ' Q)):Wp P E rd (.seq (.region id ops true) y) fl fr ms σ Q:=by
 obtain⟨fr',σ',h1,h2⟩:=h.ex;exact .seq (.CY hU hs h1 (.normal h2))
theorem WL.KJ{id:Nat}(_hs:E7 ops=true)(h:SQ P (gU E) fl ops ops.toList fr σ (λfr' σ'=>Q ⟨.normal,fr',ms,σ'⟩)):Wp P E rd (.region id ops false) fl fr ms σ Q:=.oE h
theorem WL.ct{g:Operand}{x y:Code}(hg:cU fr g=some (.bool true))(h1:Wp P E rd x fl fr ms σ Q):Wp P E rd (.cond g x y) fl fr ms σ Q:=.cond_true (fJ hg) h1
theorem WL.cf{g:Operand}{x y:Code}(hg:cU fr g=some (.bool false))(h1:Wp P E rd y fl fr ms σ Q):Wp P E rd (.cond g x y) fl fr ms σ Q:=.cond_false (fJ hg) h1
theorem p6{c:Prop}{σ σ':Jp}{fr:Jq}{A:(Nat->PD)->Jq}(hc:c)(h:fr=A (λn=>fr.getD n (.aH [])))(hs:σ=σ'):∃g:Nat->PD,c/\fr=A g/\σ=σ':=⟨_,hc,h,hs⟩
end
theorem cE{c:Prop}{σ σ':Jp}{fr:Jq}{A:(Nat->PD)->Jq}(hc:c)(h:fr=A (λn=>fr.getD n (.aH [])):=by(first|rfl|(simp[];repeat(first|rfl|(apply And.intro)))|(simp[];done)))(hs:σ=σ':=by(first|rfl|(simp[];repeat(first|rfl|(apply And.intro)))|(simp[];done))):∃g:Nat->PD,c/\fr=A g/\σ=σ':=⟨_,hc,h,hs⟩
theorem fQ{X c:Prop}{σ σ':Jp}{fr:Jq}{A:(Nat->PD)->Jq}(hc:c)(gx:X)(h:X->fr=A (λn=>fr.getD n (.aH [])):=by(intro gx;first|rfl|(simp[gx];repeat(first|rfl|(apply And.intro)))|(simp[gx];done)))(hs:X->σ=σ':=by(intro gx;first|rfl|(simp[gx];repeat(first|rfl|(apply And.intro)))|(simp[gx];done))):∃g:Nat->PD,c/\fr=A g/\σ=σ':=⟨_,hc,h gx,hs gx⟩
end
section
section
variable{P:Program}{call:cY}{fl:Nat}{ops:Ju}
theorem SL.OU{x:Operand}{id ver off:Nat}{dst:Option Tmp}{ty:TypeId}{pos:String}{edges:Array Edge}{guard:Option (Tmp×Bool)}{l:List Oper}{fr aX:Jq}{σ:Jp}{K:List PD->List aA->Prop}(hw:Wt (Region.wanted ⟨dst,.nilCheck x,ty,pos,edges,guard⟩ (cH ops fr)=true))(hx:cU fr x=some (.dG id ver off))(hf:Fr (bC fr dst (.dG id ver off)=aX))(k:SQ P call fl ops l aX σ K) :
  SQ P call fl ops (⟨dst,.nilCheck x,ty,pos,edges,guard⟩::l) fr σ K:=
 .step hw.h (rJ rfl (by simp only[eP,fJ hx])) (hf.h▸k)
end
end
theorem WL.KK{P:Program}{E:aE}{rd:Option Nat}{fl:Nat}{fr:Jq}{ms:List Nat}{σ:Jp}{Q:PO->Prop}{ops:Ju}{id:Nat}(hU:aJ E)(_hd:E7 ops=true)(hs:(wG ops&&xJ ops)=true)(h:SQ P (l7 E) fl ops ops.toList fr σ (λfr' σ'=>Q ⟨.normal,fr',ms,σ'⟩)) :
  Wp P E rd (.region id ops true) fl fr ms σ Q:=.aHY hU hs h
theorem WL.KL{P:Program}{E:aE}{rd:Option Nat}{fl:Nat}{fr:Jq}{ms:List Nat}{σ:Jp}{Q:PO->Prop}{ops:Ju}{id:Nat}(_hd:E7 ops=true)(hs:(wG ops&&HJ ops)=true)(h:SQ P (gU E) fl ops ops.toList fr σ (λfr' σ'=>Q ⟨.normal,fr',ms,σ'⟩)) :
  Wp P E rd (.region id ops true) fl fr ms σ Q:=.aHZ hs h
section
inductive CK where
 |b
 |i (k:IntKind)
 |s
def AY(c:Bool):Option Bool->Option Bool
 |some d=>some (c&&d)
 |none=>none
def mH:List CK->List PD->List PD->Option Bool
 | [],[],[]=>some true
 |.b::ks,.bool a::xs,.bool b::ys=>AY (decide (a=b)) (mH ks xs ys)
 |.i k::ks,.int k1 a::xs,.int k2 b::ys=>if k1=k/\k2=k then AY (decide (a=b)) (mH ks xs ys)else none
 |.s::ks,.str a::xs,.str b::ys=>AY (decide (a=b)) (mH ks xs ys)
 |_,_,_=>none
def KR(pl:TypeId->Option (List CK))(P:Program):Nat->List Field->Option (List CK)
 |_,[]=>some []
 |off,f::fs=>if f.name= "_" \/ f.offset≠off then none else
  match pl f.type,cM P f.type with
  |some ks,some n=>if ks.length=n/\0<n then(match KR pl P (off+n) fs with|some r=>some (ks++r)|none=>none)else none
  |_,_=>none
def tL(P:Program):Nat->TypeId->Option (List CK)
 |0,_=>none
 |d+1,t=>match P.underlying t with
  |some .bool=>some [.b]
  |some (.int k)=>some [.i k]
  |some .string=>some [.s]
  |some (.struct fs)=>if P.stoodInHeld t then none else KR (tL P d) P 0 fs.toList
  |some (.array len e)=>match tL P d e,cM P e with
   |some ks,some n=>if ks.length=n/\0<n then some (List.replicate len ks).flatten else none
   |_,_=>none
  |_=>none
def FA(P:Program)(t:TypeId)(x:PD)(xs:List PD):Prop:=(gK P t=some true/\x=.agg xs)\/(gK P t=some false/\xs=[x])
theorem aBz:∀ {xs ys:Jq} {b:Bool},mH [] xs ys=some b->b=true
 | [],[],b,h=>by simp only[mH,yAb]at h;exact h.symm
 | [],_::_,_,h=>by simp[mH]at h
 |_::_,_,_,h=>by simp[mH]at h
theorem T9:∀(ks r:List CK) (xs ys:List PD) (b:Bool),mH (ks++r) xs ys=some b ->
  ∃b1 b2,mH ks (xs.take ks.length) (ys.take ks.length)=some b1/\mH r (xs.drop ks.length) (ys.drop ks.length)=some b2/\b=(b1&&b2)/\ks.length<=xs.length/\ks.length<=ys.length
 | [],r,xs,ys,b,h=>⟨true,b,rfl,h,Ck,Ck,Ck⟩
 |k::ks,r,xs,ys,b,h=>by
  have key:∀(c:Bool) (us vs:List PD),AY c (mH (ks++r) us vs)=some b->∃b1 b2,AY c (mH ks (us.take ks.length) (vs.take ks.length))=some b1/\mH r (us.drop ks.length) (vs.drop ks.length)=some b2/\b=(b1&&b2)/\ks.length<=us.length/\ks.length<=vs.length:=by
   intro c us vs hc;cases h1:mH (ks++r) us vs with
   |none=>rw[h1]at hc;cases hc
   |some d=>
    rw[h1]at hc;simp only[AY,yAb]at hc;obtain⟨b1,b2,e1,e2,e3,e4,e5⟩:=T9 ks r us vs d h1;exact⟨c&&b1,b2,Gr,e2,by rw[<-hc,e3,Bool.and_assoc],e4,e5⟩
  match k,xs,ys,h with
  |.b,.bool a::xs,.bool a'::ys,h=>
    exact qf
  |.i k,.int k1 a::xs,.int k2 a'::ys,h=>
    simp only[yBs,mH]at h;split at h
    .rename_i hk;obtain⟨b1,b2,e1,e2,e3,e4,e5⟩:=key _ xs ys h;exact⟨b1,b2,by simpa only[yAT,yDo,mH,yAJ hk]using e1,e2,e3,by simpa using e4,by simpa using e5⟩
    .cases h
  |.s,.str a::xs,.str a'::ys,h=>
    exact qf
section
variable{P:Program}
theorem aHX{d:Nat}{t:TypeId}{ks:List CK}(h:tL P d t=some ks):(gK P t=some true)\/(gK P t=some false/\ks.length=1):=by
 cases d with
 |zero=>cases h
 |succ d=>
  unfold tL at h;unfold gK;split at h<;>rename_i hu<;>try simp only[hu]
  .right;simp only[yAb]at h;subst h;exact⟨trivial,rfl⟩
  .right;simp only[yAb]at h;subst h;exact⟨trivial,rfl⟩
  .right;simp only[yAb]at h;subst h;exact⟨trivial,rfl⟩
  .left;trivial
  .left;trivial
  .cases h
theorem aBA{d:Nat}{t:TypeId}{ks:List CK}(h:tL P d t=some ks)(hs:cM P t=some ks.length){xs:Jq}{off:Nat}(hl:off+ks.length<=xs.length):∃x,oV P t xs off=some x/\FA P t x ((xs.drop off).take ks.length):=by
 rcases aHX h with ha | ⟨ha,h1⟩
 .exact⟨_,by simp only[oV,ha,hs,hl,yAK],.inl ⟨ha,rfl⟩⟩
 .rw[h1]at hl;have hlt:off<xs.length:=Cj;refine⟨xs[off],by simp only[oV,ha,hs,yAh hlt],.inr ⟨ha,?_⟩⟩;rw[h1,yAq hlt];rfl
theorem O1:∀(d:Nat) (t:TypeId) (ks:List CK) (x y:PD) (xs ys:List PD) (b:Bool),tL P d t=some ks->FA P t x xs->FA P t y ys->mH ks xs ys=some b->mI P d t x y=some b
 |0,_,_,_,_,_,_,_,h,_,_,_=>Co
 |d+1,t,ks,x,y,xs,ys,b,h,hx,hy,hc=>by
  unfold tL at h;unfold mI;have fin:∀ {z:PD} {zs:Jq},FA P t z zs->gK P t=some true->z=.agg zs:=λhz ha=>by
   rcases hz with⟨_,e⟩ | ⟨e,_⟩
   .exact e
   .rw[ha]at e;cases e
  have one:∀ {z:PD} {zs:Jq},FA P t z zs->gK P t=some false->zs=[z]:=λhz ha=>by
   rcases hz with⟨e,_⟩ | ⟨_,e⟩
   .rw[ha]at e;cases e
   .exact e
  split at h<;>rename_i hu<;>try simp only[hu]
  .simp only[yAb]at h;subst h;have ha:gK P t=some false:=Gk;rw[one hx ha,one hy ha]at hc;cases x<;>cases y<;>simp only[mH,reduceCtorEq]at hc ⊢
   simpa [AY,BEq.beq]using hc
  .rename_i k;simp only[yAb]at h;subst h;have ha:gK P t=some false:=Gk;rw[one hx ha,one hy ha]at hc;cases x<;>cases y<;>simp only[mH,reduceCtorEq]at hc ⊢
   split at hc
   .rename_i hk;rw[yAJ (hk.1.trans hk.2.symm)];simpa [AY,BEq.beq]using hc
   .cases hc
  .simp only[yAb]at h;subst h;have ha:gK P t=some false:=Gk;rw[one hx ha,one hy ha]at hc;cases x<;>cases y<;>simp only[mH,reduceCtorEq]at hc ⊢
   simp only[AY,yDp,yAb]at hc;rw[<-hc];congr 1;rw[Bool.eq_iff_iff];simp
  .rename_i fs;split at h
   .cases h
   .rename_i hst;have ha:gK P t=some true:=Gk;obtain rfl:=fin hx ha;obtain rfl:=fin hy ha;simp only[hst,yAx,yAN];have key:∀(fs:List Field) (off:Nat) (r:List CK) (b:Bool),KR (tL P d) P off fs=some r->mH r (xs.drop off) (ys.drop off)=some b->AZ (mI P d) P xs ys fs=some b:=by
     intro fs
     induction fs with
     |nil=>
      intro off r b hr hb;simp only[KR,yAb]at hr;subst hr;unfold AZ;rw[aBz hb]
     |cons f fs ih=>
      intro off r b hr hb;simp only[KR]at hr;split at hr
      .cases hr
      .rename_i hn;have yY:¬f.name= "_" := λe=>hn (.inl e)
       have hn2:f.offset=off:=by
        rcases Nat.decEq f.offset off with e|e
        .exact absurd (.inr e) hn
        .exact e
       split at hr
       .rename_i ks n h1 h2;split at hr
        .rename_i hlen;split at hr
         .rename_i r' h3;simp only[yAb]at hr;subst hr;obtain⟨b1,b2,e1,e2,e3,e4,e5⟩:=T9 _ _ _ _ _ hb;obtain⟨hlen,hpos⟩:=hlen;have hpart:∀ {zs:Jq},ks.length<=(zs.drop off).length->∃x,oV P f.type zs off=some x/\FA P f.type x ((zs.drop off).take ks.length):=by
           intro zs hz;exact vo
          obtain⟨x1,p1,c1⟩:=hpart e4;obtain⟨y1,p2,c2⟩:=hpart e5;have q:=O1 d f.type ks x1 y1 _ _ b1 h1 c1 c2 e1;unfold AZ;rw[yAI yY,hn2];simp only[p1,p2,q];rw[yBD,yBD,hlen]at e2;have q2:=ih (off+n) r' b2 h3 e2;exact ve
         .cases hr
        .cases hr
       .cases hr
    exact key fs.toList 0 ks b h (by simpa using hc)
  .rename_i len e;split at h
   .rename_i ks' n h1 h2;split at h
    .rename_i hlen;simp only[yAb]at h;subst h;have ha:gK P t=some true:=Gk;obtain rfl:=fin hx ha;obtain rfl:=fin hy ha;simp only[h2];have key:∀(m i:Nat) (b:Bool),mH (List.replicate m ks').flatten (xs.drop (i*n)) (ys.drop (i*n))=some b->C3 (mI P d e) P e n xs ys i m=some b:=by
      intro m
      induction m with
      |zero=>
       intro i b hb;unfold C3;simp only[List.replicate_zero,List.flatten_nil]at hb;rw[aBz hb]
      |succ m ih=>
       intro i b hb;rw[List.replicate_succ,yBB]at hb;obtain⟨b1,b2,e1,e2,e3,e4,e5⟩:=T9 _ _ _ _ _ hb;obtain⟨hlen,hpos⟩:=hlen;have hpart:∀ {zs:Jq},ks'.length<=(zs.drop (i*n)).length->∃x,oV P e zs (i*n)=some x/\FA P e x ((zs.drop (i*n)).take ks'.length):=by
        intro zs hz;exact vo
       obtain⟨x1,p1,c1⟩:=hpart e4;obtain⟨y1,p2,c2⟩:=hpart e5;have q:=O1 d e ks' x1 y1 _ _ b1 h1 c1 c2 e1;unfold C3;simp only[p1,p2,q];rw[yBD,yBD,hlen,<-yBV]at e2;have q2:=ih (i+1) b2 e2;exact ve
     exact key len 0 b (by simpa using hc)
    .cases h
   .cases h
  .cases h
theorem O2{t:TypeId}{ks:List CK}{xs ys:Jq}{b:Bool}(hg:P.eqGuardType P.depth t=false)(h:tL P 12 t=some ks)(ha:gK P t=some true)(hc:mH ks xs ys=some b) :
  eI P .eql t (.agg xs) (.agg ys)=some (.bool b):=by
 exact rm
theorem O3{t:TypeId}{ks:List CK}{xs ys:Jq}{b:Bool}(hg:P.eqGuardType P.depth t=false)(h:tL P 12 t=some ks)(ha:gK P t=some true)(hc:mH ks xs ys=some b) :
  eI P .neq t (.agg xs) (.agg ys)=some (.bool (!b)):=by
 exact rm
end
end
section
section
variable{α:Type}{e:Em α}{k:Nat}{tok:Tok}
def Em.O0(e:Em α):List PD->Option (List α)
 | []=>some []
 |p::ps=>match e.dec p,e.O0 ps with
  |some x,some xs=>some (x::xs)
  |_,_=>none
@[simp] theorem aT5:e.O0 []=some []:=rfl
@[simp] theorem aT6{p:PD}{ps:Jq}:e.O0 (p::ps)=(match e.dec p,e.O0 ps with|some x,some xs=>some (x::xs)|_,_=>none):=rfl
end
end
section
open Go.RowKit
def C1(pl:TypeId->Bool)(P:Program):Nat->List Field->Option Nat
 |off,[]=>some off
 |off,f::fs=>if f.offset=off/\pl f.type=true then C1 pl P (off+P.cellsOf f.type) fs else none
def tJ(P:Program):Nat->TypeId->Bool
 |0,_=>false
 |d+1,t=>match P.underlying t with
  |some .bool|some (.int _)|some .string=>P.cellsOf t==1
  |some (.slice e)=>P.cellsOf t==1&&tJ P d e&&decide (0<P.cellsOf e)
  |some (.struct fs)=>C1 (tJ P d) P 0 fs.toList==some (P.cellsOf t)
  |some (.array n e)=>tJ P d e&&P.cellsOf t==n*P.cellsOf e
  |_=>false
def wH(T:TypeId->List PD->Prop):List Field->List PD->Prop
 | [],ps=>ps=[]
 |f::fs,ps=>∃a b,ps=a++b/\T f.type a/\wH T fs b
def lZ(P:Program)(t:TypeId)(ps:List PD):PD:=match gK P t with
 |some true=>.agg ps
 |_=>ps.headD (.aH [])
def Typed(P:Program):Nat->TypeId->List PD->Prop
 |0,_,_=>False
 |d+1,t,ps=>match P.underlying t with
  |some .bool=>∃b,ps=[.bool b]
  |some (.int k)=>∃n,ps=[.int k n]/\(Lit.int k n).wf=true
  |some .string=>∃s,ps=[.str s]/\s.length<=maxLen
  |some (.slice e)=>∃xs:List (List PD),xs.length<=maxLen/\(∀x∈xs,Typed P d e x)/\ps=[.slice (sz (P.cellsOf e) xs) (xs.map (lZ P e)) .any]
  |some (.struct fs)=>wH (Typed P d) fs.toList ps
  |some (.array n e)=>∃xs:List (List PD),xs.length=n/\(∀x∈xs,Typed P d e x)/\ps=xs.flatten
  |_=>False
theorem wH.length{P:Program}{d:Nat}(ih:∀t ps,tJ P d t=true->Typed P d t ps->ps.length=P.cellsOf t):∀(fs:List Field) (off n:Nat) (ps:List PD),C1 (tJ P d) P off fs=some n->wH (Typed P d) fs ps->off+ps.length=n
 | [],off,n,ps,h,ht=>by
   simp only[C1,yAb]at h;simp only[wH]at ht;subst ht h;rfl
 |f::fs,off,n,ps,h,ht=>by
  simp only[C1]at h;split at h
  .rename_i hf;obtain⟨a,b,rfl,ha,hb⟩:=ht;have h1:=ih _ _ hf.2 ha;have h2:=wH.length ih fs _ n b h hb;simp only[yAa];omega
  .cases h
theorem Typed.length{P:Program}:∀(d:Nat) (t:TypeId) (ps:List PD),tJ P d t=true->Typed P d t ps->ps.length=P.cellsOf t
 |0,_,_,h,_=>Co
 |d+1,t,ps,h,ht=>by
  unfold tJ at h;unfold Typed at ht;split at h<;>rename_i hu<;>try simp only[hu]at ht
  .obtain⟨b,rfl⟩:=ht;simp at h;simp[h]
  .obtain⟨b,rfl,_⟩:=ht;simp at h;simp[h]
  .obtain⟨b,rfl,_⟩:=ht;simp at h;simp[h]
  .obtain⟨xs,_,_,rfl⟩:=ht;simp at h;simp[h]
  .simp only[yCc]at h;have:=wH.length (Typed.length d) _ 0 _ ps h ht;omega
  .rename_i n e;simp only[yAr,yCc]at h;obtain⟨xs,h1,h2,rfl⟩:=ht;rw[h.2,<-h1];have key:∀(xs:List (List PD)),(∀x∈xs,Typed P d e x)->xs.flatten.length=xs.length*P.cellsOf e:=by
    intro xs
    induction xs with
    |nil=>intro _;simp
    |cons x xs ih=>
     intro hx;rw[yBB,yAa,Typed.length d e x h.1 (hx x Ck),ih (λy hy=>hx y Ho),yAT,yBV];omega
   exact key xs h2
section
variable{H:Type}{enc:TypeId×Value->H}{P:Program}{w:World}{base:Nat}{sp:Nat->Bool}{held:Bool}
structure nP (w:World) (cs:List Value) (ps:List PD):Prop where
 HI:aY (.start w) cs ps
 one:∀v∈cs,v.oneCell'=true
theorem nP.nil:nP w [] []:=⟨⟨rfl,Ck⟩,Ck⟩
theorem nP.single{v:Value}{p:PD}(h:VR (.start w) v p)(ho:v.oneCell'=true):nP w [v] [p]:=
 ⟨⟨rfl,λi u d h1 h2=>by cases i with
   |zero=>simp at h1 h2;subst h1 h2;exact h
   |succ i=>simp at h1⟩,Fe⟩
theorem nP.append{a b:Js}{ps qs:Jq}(h:nP w a ps)(k:nP w b qs):nP w (a++b) (ps++qs):=
 ⟨h.HI.append k.HI,λv hv=>(yBh.1 hv).elim (h.one v) (k.one v)⟩
theorem nP.agg{cs:Js}{ps:Jq}(h:nP w cs ps):VR (.start w) (.agg cs.toArray) (.agg ps):=.agg cs ps h.HI.1 h.one h.HI.2
theorem aHV{t:TypeId}{d:Nat}{ps:Jq}(h:tJ P d t=true)(ht:Typed P d t ps):(lZ P t ps).cells=ps:=by
 cases d with
 |zero=>cases h
 |succ d=>
  unfold tJ at h;unfold Typed at ht;unfold lZ gK;split at h<;>rename_i hu<;>try simp only[hu]at ht ⊢
  .obtain⟨b,rfl⟩:=ht;rfl
  .obtain⟨b,rfl,_⟩:=ht;rfl
  .obtain⟨b,rfl,_⟩:=ht;rfl
  .obtain⟨xs,_,_,rfl⟩:=ht;rfl
  .rfl
  .rfl
theorem aHW{fuel:Nat}{t:TypeId}{cs:Js}{x:DataW H×List MemPlace}(ht:P.underlying t=some .bool)(h:DataW.trod enc P w base sp held fuel t cs=some x):∃b,cs=[.bool b]:=by
 cases fuel with
 |zero=>simp[DataW.trod]at h
 |succ n=>
  unfold DataW.trod at h;rw[ht]at h;split at h<;>simp_all
theorem OZ:∀(fuel d:Nat) (t:TypeId) (cs:List Value) (x:DataW H×List MemPlace),DataW.trod enc P w base sp held fuel t cs=some x->tJ P d t=true->∃ps,Typed P d t ps/\nP w cs ps
 |_,0,_,_,_,_,h=>Co
 |fuel,d+1,t,cs,x,hx,h=>by
  unfold tJ at h;split at h<;>rename_i hu<;>try simp only[Typed,hu]
  .obtain⟨b,rfl⟩:=aHW hu hx;exact⟨_,⟨b,rfl⟩,nP.single (.bool _) rfl⟩
  .rename_i k;obtain⟨n,rfl,_,hw⟩:=DataW.trod_int hu hx;exact⟨_,⟨n,rfl,hw⟩,nP.single (.int _ _) rfl⟩
  .obtain⟨s,rfl,_,hs⟩:=DataW.trod_string hu hx;refine⟨_,⟨s.data.toList,rfl,by rw[yBc];exact hs⟩,nP.single ?_ rfl⟩;exact xh
  .rename_i e;simp only[yAr,yCb]at h;obtain⟨⟨_,he⟩,hpos⟩:=h;rcases DataW.trod_slice hu hx with⟨rfl,_⟩ | ⟨a,len,cap,elems,rest,n,rfl,rfl,hrest⟩
   .exact⟨_,⟨[],Ck,Ck,rfl⟩,nP.single (.slice none 0 0 0 [] .any [] rfl (yAk _) (yAF _) Ck rfl Ck Ck Ck trivial) rfl⟩
   .obtain⟨_,hlc,hcm,hel,hall,_,_⟩:=hrest.2;have key:∀(k i:Nat),i+k=len->∃(ys:List (List PD)) (fl:List Value),ys.length=k/\(∀y∈ys,Typed P d e y)/\nP w fl ys.flatten/\fl.length=k*P.cellsOf e /\
      ∀(j:Nat) (v:Value),fl[j]?=some v->w.cell? (a.add (i*P.cellsOf e+j))=some v:=by
     intro k
     induction k with
     |zero=>intro i _;exact⟨[],[],rfl,Ck,nP.nil,Ck,Ck⟩
     |succ k ih=>
      intro i hi;obtain⟨ys,fl,h1,h2,h3,h4,h5⟩:=ih (i+1) Cj;have h6:=hall i Cj;have hlt:i<elems.length:=Cj;rw[yAh hlt,Option.bind_eq_some_iff]at h6;obtain⟨vs,h7,h8⟩:=h6;obtain⟨_,h9,h10⟩:=World.cells?_some h7;obtain⟨qs,h11,h12⟩:=OZ n d e _ _ h8 he;refine⟨qs::ys,vs++fl,by simp[h1],by simpa using⟨h11,h2⟩,by rw[yBB];exact h12.append h3,by rw[yAa,h9,h4,yBV];omega,λj v hv=>?_⟩;rcases yCj j vs.length with hj|hj
      .rw[yAg hj]at hv;have:=h10 j Cj;rw[E9]at this;rw[this,hv]
      .rw[yBP hj]at hv;have:=h5 _ v hv;rw[h9]at this hj;rw[<-this,yBV]
       congr 2
       omega
    obtain⟨ys,fl,h1,h2,h3,h4,h5⟩:=key len 0 Cj;have hcells:∀y∈ys,(lZ P e y).cells=y:=λy hy=>aHV he (h2 y hy)
    have hflat:(ys.map (lZ P e)).flatMap PD.cells=ys.flatten:=by
     have:∀(ys:List (List PD)),(∀y∈ys,(lZ P e y).cells=y)->(ys.map (lZ P e)).flatMap PD.cells=ys.flatten:=by
      intro ys
      induction ys with
      |nil=>intro _;rfl
      |cons y ys ih=>
       intro hy;rw[yAW,yBw,yBB,hy y Ck,ih (λz hz=>hy z (by simp[hz]))]
     exact this ys hcells
    refine⟨_,⟨ys,Cj,h2,rfl⟩,nP.single (.slice (some a) len cap _ _ .any fl (by simp[h1]) hlc hcm ?_ ?_ h3.one ?_ ?_ trivial) rfl⟩
    .intro x hx;obtain⟨y,hy,rfl⟩:=yAw.1 hx;rw[hcells y hy,Typed.length d e y he (h2 y hy),tK (List.ne_nil_of_mem hy)]
    .rw[h4];cases ys with
     |nil=>simp at h1;subst h1;simp
     |cons y ys=>simp[sz]
    .intro j v hv;have:=h5 j v hv;rw[yCO,yAp]at this;exact⟨a,rfl,this,aBy _⟩
    .intro j v p hv hp;rw[hflat]at hp;exact h3.HI.2 j v p hv hp
  .rename_i fs;simp only[yCc]at h;obtain⟨xs,n,rfl,_,hl,hn,hf⟩:=DataW.trod_struct hu hx;have key:∀(gs:List Field) (i:Nat) (off m:Nat),gs=fs.toList.drop i->C1 (tJ P d) P off gs=some m->m<=cs.length->off<=m/\∃ps,wH (Typed P d) gs ps/\nP w ((cs.drop off).take (m-off)) ps:=by
    intro gs
    induction gs with
    |nil=>
     intro i off m _ hp hm;simp only[C1,yAb]at hp;subst hp;exact⟨yAk _,[],rfl,by simpa using nP.nil⟩
    |cons g gs ih=>
     intro i off m hg hp hm;simp only[C1]at hp;split at hp
     .rename_i hc;have hgi:fs[i]?=some g:=by
       have:(fs.toList.drop i)[0]?=some g:=by rw[<-hg];rfl
       exact cw
      have hgs:gs=fs.toList.drop (i+1):=by
       rw[<-List.tail_drop,<-hg];rfl
      obtain⟨h1,ps,h2,h3⟩:=ih (i+1) _ m hgs hp hm;have h4:=hf i g hgi;have hlt:i<xs.length:=by
       rw[hn];exact(yDG.1 hgi).1
      rw[yAh hlt]at h4;obtain⟨qs,h5,h6⟩:=OZ n d g.type _ _ h4 hc.2;refine⟨Cj,qs++ps,⟨qs,ps,rfl,h5,h2⟩,?_⟩;rw[hc.1]at h6;have e:(cs.drop off).take (m-off)=(cs.drop off).take (P.cellsOf g.type)++(cs.drop (off+P.cellsOf g.type)).take (m-(off+P.cellsOf g.type)):=by
       have:m-off=P.cellsOf g.type+(m-(off+P.cellsOf g.type)):=Cj;rw[this,List.take_add,yBD]
      rw[e];exact h6.append h3
     .cases hp
   obtain⟨_,ps,h1,h2⟩:=key fs.toList 0 0 _ Ck h Cj;refine⟨ps,h1,?_⟩;simpa [<-hl]using h2
  .rename_i n e;simp only[yAr,yCc]at h;obtain⟨xs,m,rfl,_,hl,hn,hf⟩:=DataW.trod_array hu hx;have key:∀(k i:Nat),i+k=n->∃ys:List (List PD),ys.length=k/\(∀y∈ys,Typed P d e y)/\nP w (cs.drop (i*P.cellsOf e)) ys.flatten:=by
    intro k
    induction k with
    |zero=>
     intro i hi;have:cs.drop (i*P.cellsOf e)=[]:=yAs (by rw[hl,h.2];simp at hi;subst hi;omega);exact⟨[],rfl,Ck,by rw[this];exact nP.nil⟩
    |succ k ih=>
     intro i hi;obtain⟨ys,h1,h2,h3⟩:=ih (i+1) Cj;have h4:=hf i Cj;have hlt:i<xs.length:=Cj;rw[yAh hlt]at h4;obtain⟨qs,h5,h6⟩:=OZ m d e _ _ h4 h.1;refine⟨qs::ys,by simp[h1],by simpa using⟨h5,h2⟩,?_⟩;rw[yBB];have e':cs.drop (i*P.cellsOf e)=(cs.drop (i*P.cellsOf e)).take (P.cellsOf e)++cs.drop ((i+1)*P.cellsOf e):=by
      rw[yBV,<-yBD,List.take_append_drop]
     rw[e'];exact h6.append h3
   obtain⟨ys,h1,h2,h3⟩:=key n 0 Cj;exact⟨_,⟨ys,h1,h2,rfl⟩,Ie⟩
  .cases h
end
end
section
open Go.RowKit
section
variable{H:Type}{enc:TypeId×Value->H}{P:Program}{w:World}{base:Nat}{sp:Nat->Bool}{held:Bool}
theorem OL{n:Nat}{t:TypeId}{v:Value}{d:DataW H}{ms:List MemPlace}(hp:tJ P n t=true)(hv:Value.okWide P w .any base t v)(h:DataW.Trod enc P w 0 sp held t v d ms) :
  ∃qs,Typed P n t qs/\VR (.start w) v (lZ P t qs):=by
 obtain⟨fuel,h⟩:=h;obtain⟨qs,h1,h2⟩:=OZ fuel n t _ _ h hp;refine⟨qs,h1,?_⟩;have hlen:=Typed.length n t qs hp h1;cases n with
 |zero=>cases hp
 |succ n=>
  have cell:gK P t=some false->(∀cs,v≠.agg cs)->VR (.start w) v (lZ P t qs):=λha hna=>by
   have hc:v.cells=#[v]:=by
    cases v<;>first|rfl|exact absurd rfl (hna _)
   rw[hc]at h2;obtain⟨hl,hr⟩:=h2.HI
   match qs,hl with
   | [q],_=>
     have:=hr 0 v q rfl rfl;simpa only[lZ,ha,List.headD_cons]using this
  have row:gK P t=some true->(∃cs,v=.agg cs)->VR (.start w) v (lZ P t qs):=λha ⟨cs,e⟩=>by
   subst e;have:=h2.agg;simpa only[lZ,ha,Value.cells]using this
  unfold tJ at hp;unfold Value.okWide at hv;split at hp<;>rename_i hu
  .exact gi
  .exact gi
  .exact gi
  .exact gi
  .exact vm
  .exact vm
  .cases hp
end
section
variable{P:Program}
theorem nJ{d:Nat}{t:TypeId}{k:IntKind}{qs:Jq}(hu:P.underlying t=some (.int k))(h:Typed P (d+1) t qs):∃n,qs=[.int k n]/\(Lit.int k n).wf=true:=by
 simpa only[Typed,hu]using h
theorem aBp{d:Nat}{t:TypeId}{qs:Jq}(hu:P.underlying t=some .bool)(h:Typed P (d+1) t qs):∃b,qs=[.bool b]:=by
 simpa only[Typed,hu]using h
theorem HD{d:Nat}{t:TypeId}{fs:Array Field}{qs:Jq}(hu:P.underlying t=some (.struct fs))(h:Typed P (d+1) t qs):wH (Typed P d) fs.toList qs:=by
 simpa only[Typed,hu]using h
theorem KG{α:Type}{em:Em α}{R:α->Prop}{d:Nat}{t e:TypeId}{k:Nat}{qs:Jq}(hu:P.underlying t=some (.slice e))(hk:P.cellsOf e=k)(hf:∀x,Typed P d e x->∃y,lZ P e x=em.aB y/\R y)(h:Typed P (d+1) t qs) :
  ∃ys,qs=[(em.list k).aB ys]/\ys.length<=maxLen/\∀y∈ys,R y:=by
 simp only[Typed,hu]at h;obtain⟨xs,h1,h2,rfl⟩:=h;have key:∀xs:List (List PD),(∀x∈xs,Typed P d e x)->∃ys:List α,ys.length=xs.length/\xs.map (lZ P e)=ys.map em.aB/\∀y∈ys,R y:=by
  intro xs
  induction xs with
  |nil=>intro _;exact⟨[],rfl,rfl,Ck⟩
  |cons x xs ih=>
   intro hx;obtain⟨ys,h3,h4,h5⟩:=ih (λz hz=>hx z (by simp[hz]));obtain⟨y,h6,h7⟩:=hf x (hx x Ck);exact⟨y::ys,by simp[h3],by simp[h4,h6],by simpa using⟨h7,h5⟩⟩
 obtain⟨ys,h3,h4,h5⟩:=key xs h2;refine⟨ys,?_,Cj,h5⟩;rw[aU,h4,hk];have:sz k xs=sz k ys:=by simp only[sz,h3]
 rw[this]
theorem aHU{t:TypeId}{q:PD}(ha:gK P t=some false):lZ P t [q]=q:=by simp only[lZ,ha,List.headD_cons]
theorem EV{t:TypeId}{qs:Jq}(ha:gK P t=some true):lZ P t qs=.agg qs:=by simp only[lZ,ha]
theorem l6{T:TypeId->List PD->Prop}{f:Field}{fs:List Field}{ps:Jq}(h:wH T (f::fs) ps):∃a b,ps=a++b/\T f.type a/\wH T fs b:=h
theorem HE{T:TypeId->List PD->Prop}{ps:Jq}(h:wH T [] ps):ps=[]:=h
theorem wf_i64{z:Int}(hz:(Lit.int .i64 z).wf=true):-9223372036854775808<=z/\z<=9223372036854775807:=by
 exact ue
theorem wf_u8{z:Int}(hz:(Lit.int .u8 z).wf=true):0<=z/\z<=255:=by
 exact ue
theorem aBi{c:Cx}:aY c [] []:=⟨rfl,Ck⟩
theorem OM{c:Cx}{v:Value}{p:PD}{vs:Js}{ps:Jq}(h:VR c v p)(hs:aY c vs ps):aY c (v::vs) (p::ps):=
 ⟨by simp[hs.1],λi u d hu hd=>by
  cases i with
  |zero=>simp at hu hd;subst hu hd;exact h
  |succ i=>exact hs.2 i u d Hz Hw⟩
end
end
section
section
variable{α:Type}{l r:List α}{x y:α}{n:Nat}
end
end
@[simp] theorem aT4{α:Type}{k:Nat}{xs:List α}:sz (sz k xs) xs=sz k xs:=by
  unfold sz;split<;>rfl
def lK(σ:List aA)(tok:Tok)(e:TypeId)(k n:Nat):Prop:=(n=0/\tok=.full)\/(0<n/\∃id,tok=.own id/\σ[id]?=some (.own e k n))
def Tok.not(tok:Tok)(id:Nat):Prop:=tok≠.own id
theorem lK.aM{σ σ':Jp}{tok:Tok}{e:TypeId}{k n:Nat}(h:lK σ tok e k n)(hk:∀id o,tok=.own id->σ[id]?=some o->σ'[id]?=some o):lK σ' tok e k n:=by
 rcases h with h | ⟨h0,id,h1,h2⟩
 .exact .inl h
 .exact .inr ⟨h0,id,h1,hk id _ h1 h2⟩
theorem lK.more{σ τ:Jp}{tok:Tok}{e:TypeId}{k n:Nat}(h:lK σ tok e k n):lK (σ++τ) tok e k n:=
 h.aM λid o _ h=>by
  exact uq
theorem E8{P:Program}{σ:Jp}{t e:TypeId}{k b s:Nat}{xs:Jq}{p:PD}{tk tok:Tok}(hu:P.underlying t=some (.slice e))(hi:lL P e=some (k,b))(hs:xs=[]\/s=k)(hr:lK σ tok e k xs.length)
  (hm:xs.length+1<=100000000000000) (hb:(xs.length+1)*b<=140737488355328) :
  ∃jK σ',kK P 0 σ t (.slice s xs tok) (.slice k [p] tk)=some (.slice k (xs++[p]) jK,σ')/\lK σ' jK e k (xs.length+1)/\(∀id o,tok≠.own id->σ[id]?=some o->σ'[id]?=some o)/\(∀id,jK=.own id->tok=.own id\/id=σ.length):=by
 unfold lL at hi;split at hi
 .rename_i i h1;split at hi
  .rename_i z h2;split at hi
   .rename_i h3;simp only[yAb,yAc]at hi;obtain⟨rfl,rfl⟩:=hi;have hs':xs.length=0\/s=i.size:=hs.imp (λh=>Eb) (λh=>h);have e1:[p].length=1:=rfl;have hmm:xs.length+1<=maxLen:=Dj;rcases hr with⟨hn,rfl⟩ | ⟨hpos,id,rfl,hid⟩
    .refine⟨.own σ.length,σ++[.own e i.size (xs.length+1)],?_,.inr ⟨Cj,_,rfl,yAB⟩,λid o _ h=>?_,λid h=>?_⟩
     .simp only[kK,hu,h1,h2,e1,hs',h3.2,h3.1,hmm,hb,yCi,yBy,yAK,Nat.one_ne_zero,yAN]
     .rw[yAg (yA.1 h).1];exact h
     .right;simpa using h.symm
    .have hlt:=(yA.1 hid).1;have hsz:s=i.size:=hs'.resolve_left Cj;refine⟨.own id,σ.set id (.own e i.size (xs.length+1)),?_,.inr ⟨Cj,id,rfl,by rw[yAj hlt]⟩,λj o hj h=>?_,λj h=>.inl h⟩
     .simp only[kK,hu,h1,h2,e1,h3.2,h3.1,hmm,hb,yCi,yBy,yAK,Nat.one_ne_zero,yAN,hsz,yAF,hid]
     .have hne:id≠j:=λe=>hj (by rw[e])
      rw[yAd hne];exact h
   .cases hi
  .cases hi
 .cases hi
section
def KQ:Op->Bool
 |.box ..=>true
 |.call { callee:=.builtin .append,.. }=>true
 |.call { callee:=.builtin .copy,.. }=>true
 |_=>false
def HH(ops:Array Oper):Bool:=tI ops.toList [] λms=>
 (List.range ops.size).all λi=>!eR KQ ops.toList i||kT ops.toList ms i
section
variable{P:Program}{E:aE}{fl:Nat}{fr:Jq}{σ:Jp}
theorem aHS(hU:aJ E){tg:FuncId ⊕ Nat}{args:Jq}{x:PD×Jp}(h:l7 E fl tg args σ=some x):gU E fl tg args σ=some x:=by
 cases tg with
 |inr id=>cases h
 |inl f=>
  simp only[l7]at h;split at h
  .rename_i g hg;split at h
   .rename_i p hp;simp only[yAb]at h;subst h;simp only[gU,hg];exact hU f g args p hg hp fl σ
   .cases h
  .cases h
theorem aHT(hU:aJ E){op:Op}{x:PD×Jp}(h:cZ P (l7 E) fl fr σ op=some x):cZ P (gU E) fl fr σ op=some x:=by
 unfold cZ at *;cases hc:iU fr op with
 |some q=>
  obtain⟨tg,args⟩:=q;simp only[hc]at h ⊢;exact aHS hU h
 |none=>
  simp only[hc]at h ⊢;exact h
theorem OW(hU:aJ E){ops:Ju}:∀(l:List Oper) (i:Nat) (fr:List PD) (σ:List aA) (x:Jq×List aA),ops.toList.drop i=l->HH ops=true ->
  fI P (l7 E) fl ops l fr σ=some x->oT P (gU E) fl ops (flags ops i l) fr σ=some x
 | [],_,_,_,_,_,_,h=>h
 |o::l,i,fr,σ,x,hd,hm,h=>by
  have ho:ops.toList[i]?=some o:=by
   exact Ab
  have hd':ops.toList.drop (i+1)=l:=Ib;have hi:i<ops.size:=by
   have:=(yA.1 ho).1;exact cw
  have hown:KQ o.op=false\/yX ops i=true:=by
   exact og
  simp only[fI]at h;simp only[flags,oT];split at h
  .rename_i hw;rw[yAJ hw];split at h
   .rename_i p σ1 hp;cases hf:(!dR o.op||yX ops i)with
    |true=>
     simp only[aHT hU hp];exact OW hU l (i+1) _ _ _ hd' hm h
    |false=>
     simp only[yDW,Bool.not_eq_false']at hf;obtain⟨jC,nO⟩:=hf;rw[nO]at hown;have hop:KQ o.op=false:=by simpa using hown
     obtain⟨e1,e2⟩:=OX (P:=P) hU (eY:=max fl σ.length) (op:=o.op) (by
      cases hq:o.op with
      |box t x=>rw[hq]at hop;cases hop
      |call c=>
       obtain⟨callee,args,ts⟩:=c;cases callee with
       |builtin b=>cases b<;>first|rfl|(rw[hq]at hop;cases hop)
       |value f=>rfl
       |invoke r m=>rfl
      |_=>rfl) jC hp
     simp only at e2;subst e2;simp only[e1,yCD,yAl];exact OW hU l (i+1) _ _ _ hd' hm h
   .cases h
  .rename_i hw;rw[yAI hw];exact OW hU l (i+1) _ _ _ hd' hm h
theorem WL.KN{rd:Option Nat}{ms:List Nat}{Q:PO->Prop}{ops:Ju}{id:Nat}(hU:aJ E)(_hd:E7 ops=true)(hs:(wG ops&&HH ops)=true)(h:SQ P (l7 E) fl ops ops.toList fr σ (λfr' σ'=>Q ⟨.normal,fr',ms,σ'⟩)) :
  Wp P E rd (.region id ops true) fl fr ms σ Q:=by
 simp only[yAr,OY]at hs;obtain⟨fr',σ',h1,h2⟩:=h.ex;exact .draw hs.1 (OW hU _ 0 _ _ _ Ck hs.2 h1) h2
end
end
section
def F0(ops:Array Oper):Bool:=ops.toList.all λo=>!dA o.op||o.guard.isNone
def VS(ops:Array Oper):Bool:=tI ops.toList [] λms=>
 wI ops ms&&(List.range ops.size).all λk=>!eR fX ops.toList k||(List.range ops.size).all λi=>!eR eJ ops.toList i||!loose ms i k
section
variable{P:Program}{E:aE}{fl:Nat}{fr:Jq}{σ:Jp}
theorem aCX(hU:aJ E){eY:Nat}{σ2:Jp}{op:Op}{x:PD×Jp}(hop:(match op with
 |.box ..=>false
 |.call { callee:=.builtin .append,.. }=>false
 |.call { callee:=.builtin .copy,.. }=>false
 |_=>true)=true) (hm:dR op=true) (h:cZ P (l7 E) fl fr σ op=some x):cZ P (gU E) eY fr σ2 op=some (x.1,σ2)/\x.2=σ:=by
 refine⟨?_,(OX hU (eY:=0) hop hm h).2⟩;unfold cZ at *;cases hc:iU fr op with
 |some q=>
  obtain⟨tg,args⟩:=q;simp only[hc]at h ⊢;cases tg with
  |inr id=>cases h
  |inl f=>
   simp only[l7]at h;split at h
   .rename_i g hg;split at h
    .rename_i p hp;simp only[yAb]at h;subst h;simp only[gU,hg];exact hU f g args p hg hp eY σ2
    .cases h
   .cases h
 |none=>
  exact gp
theorem aJX{t:TypeId}{a p:PD}(hs:List aA)(h:qO P σ t a=some p):qO P (σ++hs) t a=some p:=
 aB0 h λid e=>by
  rw[yAg (aB1 h e)]
theorem aJY{t:TypeId}{a p:PD}{σ':Jp}(hs:List aA)(h:rH P fl σ t a p=some σ'):rH P fl (σ++hs) t a p=some (σ'++hs):=by
 unfold rH at h ⊢;split at h
 .rename_i id off
  by_cases h1:fl<=id
  .rw[yAJ h1]at h ⊢;cases hq:σ[id]? with
   |none=>simp[hq]at h
   |some o=>
    have hlt:id<σ.length:=(yA.1 hq).1;rw[yAg hlt,hq];rw[hq]at h;cases o with
    |box q=>
     cases hz:cM P t with
     |none=>rw[hz]at h;cases h
     |some n=>
      rw[hz]at h;simp only at h ⊢;split at h
      .rename_i hc;rw[yAJ hc];cases hset:q.setCells off p.cells with
       |none=>rw[hset]at h;cases h
       |some q'=>
        rw[hset]at h;exact yf
      .cases h
    |_=>cases h
  .rw[yAI h1]at h;cases h
 .rename_i id ver off
  by_cases h1:fl<=id
  .rw[yAJ h1]at h ⊢;cases hq:σ[id]? with
   |none=>simp[hq]at h
   |some o=>
    have hlt:id<σ.length:=(yA.1 hq).1;rw[yAg hlt,hq];rw[hq]at h;cases o with
    |row e sz fS cs=>
     cases hz:cM P t with
     |none=>rw[hz]at h;cases h
     |some n=>
      rw[hz]at h;simp only at h ⊢;split at h
      .rename_i hc;rw[yAJ hc];exact yf
      .cases h
    |_=>cases h
  .rw[yAI h1]at h;cases h
 .cases h
theorem IG(hU:aJ E){n:Nat}{ops:Ju}(ms:List Nat)(hsh:∀(i:Nat) o,ops[i]?=some o->(fB o.op||eJ o.op||dA o.op||mS o.op||eS o.op)=true)(hno:xJ ops=true)(hsu:F0 ops=true) :
  ∀(l:List Oper) (i:Nat) (fr:List PD) (σ:List aA) (x:Jq×List aA),ops.toList.drop i=l->fI P (l7 E) fl ops l fr σ=some x ->
   ∃hs tr,mT P l=some hs/\fE P (fA P E n) fl ops ms i σ.length l fr (σ++hs)=some (tr,x.1,x.2)
 | [],_,fr,σ,x,_,h=>by
   simp only[fI,yAb]at h;subst h;exact⟨[],[],rfl,by simp[fE]⟩
 |o::l,i,fr,σ,x,hd,h=>by
  have ho:ops[i]?=some o:=by
   exact Ab
  have hd':ops.toList.drop (i+1)=l:=Ib;have hmem:o∈ops.toList:=yCg.2 (yDn ho);have hshape:=hsh i o ho;have hown:=yAn.1 hno o hmem;have hsure:=yAn.1 hsu o hmem;simp only[fI]at h
  by_cases hal:dA o.op=true
  .have hg:o.guard=none:=by
    rw[hal]at hsure;simpa using hsure
   have hw:Region.wanted o (cH ops fr)=true:=by simp[Region.wanted,hg]
   rw[yAJ hw]at h;obtain⟨t,ht⟩:∃t,o.op=.alloc t:=by
    unfold dA at hal;split at hal
    .rename_i t e;exact⟨t,e⟩
    .cases hal
   rw[ht]at h;have hst:cZ P (l7 E) fl fr σ (.alloc t)=(match fP P t with|some p=>if p.cells.all PD.plain then some (.ptr σ.length 0,σ++[.box (boxed t p)])else none|none=>none):=rfl;rw[hst]at h;cases hz:fP P t with
   |none=>rw[hz]at h;cases h
   |some p0=>
    rw[hz]at h;simp only at h
    by_cases hp:p0.cells.all PD.plain=true
    .rw[yAJ hp]at h;simp only at h;obtain⟨hs,tr,e1,e2⟩:=IG hU (n:=n) ms hsh hno hsu l (i+1) _ _ x hd' h;refine⟨.box (boxed t p0)::hs,⟨fr,σ++.box (boxed t p0)::hs,.ptr σ.length 0,kX fr o.op⟩::tr,?_,?_⟩
     .unfold mT;rw[ht];simp only[hz,e1,hp,yAK]
     .simp only[fE,hw,yAK,hal];have hA:fB o.op=false:=by rw[ht];rfl
      have hp':iA P (fA P E n) fl (kT ops.toList ms i) σ.length fr (σ++.box (boxed t p0)::hs) o.op=some (.ptr σ.length 0,σ++.box (boxed t p0)::hs):=by
       unfold iA;rw[hA,hal];simp
      rw[hp'];simp only;rw[yAa,yDa,yAi,List.singleton_append]at e2;rw[e2]
    .rw[yAI hp]at h;cases h
  .simp only[yCw]at hal;have hho:∀hs,mT P l=some hs->mT P (o::l)=some hs:=λhs e=>by
    unfold mT;split
    .rename_i t ht;rw[ht]at hal;cases hal
    .exact e
   by_cases hw:Region.wanted o (cH ops fr)=true
   .rw[yAJ hw]at h;cases hp:cZ P (l7 E) fl fr σ o.op with
    |none=>rw[hp]at h;cases h
    |some q=>
     obtain⟨p,σ1⟩:=q;rw[hp]at h;simp only at h;obtain⟨hs,tr,e1,e2⟩:=IG hU (n:=n) ms hsh hno hsu l (i+1) _ _ x hd' h;have key:iA P (fA P E n) fl (kT ops.toList ms i) σ.length fr (σ++hs) o.op=some (p,σ1++hs)/\σ1.length=σ.length:=by
      have hpd:=PF (P:=P) (call:=fA P E n) (fl:=fl) (k:=σ.length) (free:=kT ops.toList ms i) (fr:=fr) (σ:=σ++hs) hshape hal;rw[hpd]
      by_cases hm:dR o.op=true
      .obtain⟨_,e3⟩:=aCX (P:=P) hU (eY:=fl) (σ2:=σ++hs) hown hm hp;simp only at e3;subst e3;have e4:=λf=>PC (n:=n) (aCX (P:=P) hU (eY:=f) (σ2:=σ1++hs) hown hm hp).1
       simp only at e4;cases(!dR o.op||kT ops.toList ms i)with
       |true=>exact⟨e4 fl,rfl⟩
       |false=>
        simp only;rw[e4];simp
      .simp only[yCw]at hm;have hm2:=hm;rw[hm];simp only[yCu,yDr];rw[aBE (call':=l7 E) hm];unfold cZ pop at hp ⊢;have hcal:iU fr o.op=none:=by
        cases hop:o.op with
        |call c=>
         obtain⟨callee,args,ts⟩:=c;rw[hop]at hm2;cases callee with
         |value f=>simp[dR]at hm2
         |invoke r m=>rfl
         |builtin b=>rfl
        |_=>rfl
       rw[hcal]at hp ⊢;simp only at hp ⊢;cases hv:eP P fr o.op with
       |some q=>
        rw[hv]at hp;exact jl
       |none=>
        rw[hv]at hp;simp only at hp ⊢;have aJZ:eJ o.op=true\/mS o.op=true\/fX o.op=true\/fB o.op=true:=by
         simp only[hal,eS,hm2,yDI,yBu]at hshape;rcases hshape with((h|h)|h)|h
         .exact .inr (.inr (.inr h))
         .exact .inl h
         .exact .inr (.inl h)
         .exact .inr (.inr (.inl h))
        rcases aJZ with hl|hl|hl|hl
        .cases hop:o.op with
         |load t y=>
          rw[hop]at hp;simp only[dE]at hp ⊢;cases he:bD fr y with
          |none=>rw[he]at hp;cases hp
          |some a=>
           rw[he]at hp;simp only at hp ⊢;cases hlo:qO P σ t a with
           |none=>rw[hlo]at hp;cases hp
           |some q=>
            rw[hlo]at hp;rw[aJX hs hlo];exact jl
         |convert s d y=>
          rw[hop]at hp;simp only[dE]at hp ⊢;split at hp
          .rename_i htc;rw[yAJ htc];split at hp
           .rename_i ad had;split at hp
            .exact uy
            .split at hp
             .rename_i q hq;obtain⟨xs,hxs⟩:=UU hq;rw[aB3 (σ':=σ++hs) hq (λid hid=>yAg (aB2 hxs hid))];exact uy
             .cases hp
           .cases hp
          .cases hp
         |_=>rw[hop]at hl;simp[eJ]at hl
        .cases hop:o.op with
         |buildSlice t len parts=>
          rw[hop]at hp;simp only[dE]at hp ⊢;cases hps:rI fr parts.toList with
          |none=>rw[hps]at hp;cases hp
          |some ps=>
           rw[hps]at hp;simp only at hp ⊢;cases hq:uX P t len (List.map (λq=>(q.fst,q.snd.strip)) ps)with
           |none=>rw[hq]at hp;cases hp
           |some q=>
            rw[hq]at hp;exact jl
         |makeSlice t x y=>
          rw[hop]at hp hl;obtain⟨q,hq⟩:=pmem_make (P:=P) hl;simp only[hq]at hp ⊢;cases q with
          |none=>cases hp
          |some q=>
           simp only[yAC,yAb,yAc]at hp ⊢;obtain⟨rfl,rfl⟩:=hp;exact⟨⟨rfl,rfl⟩,rfl⟩
         |_=>rw[hop]at hl;simp[mS]at hl
        .cases hop:o.op with
         |store t y z=>
          rw[hop]at hp;simp only[dE]at hp ⊢;cases he:bD fr y with
          |none=>rw[he]at hp;cases hp
          |some a=>
           cases hez:bD fr z with
           |none=>rw[he,hez]at hp;cases hp
           |some b=>
            rw[he,hez]at hp;simp only at hp ⊢;cases hst:rH P fl σ t a b with
            |none=>rw[hst]at hp;cases hp
            |some q=>
             rw[hst]at hp;rw[aJY hs hst];simp only[yAb,yAc]at hp ⊢;obtain⟨rfl,rfl⟩:=hp;refine⟨⟨rfl,rfl⟩,?_⟩;unfold rH at hst;split at hst
             .split at hst
              .exact jh
              .cases hst
             .exact jh
             .cases hst
         |_=>rw[hop]at hl;simp[fX]at hl
        .rw[aBO hl]at hp;cases hp
     refine⟨hs,⟨fr,σ++hs,p,kX fr o.op⟩::tr,hho hs e1,?_⟩;simp only[fE,hw,yAK,hal,yAx,yAN];rw[key.1];simp only;rw[key.2]at e2;rw[e2]
   .simp only[yCw]at hw;rw[hw]at h;simp only[yAx,yAN]at h;obtain⟨hs,tr,e1,e2⟩:=IG hU (n:=n) ms hsh hno hsu l (i+1) _ _ x hd' h;refine⟨hs,⟨fr,σ++hs,.aH [],none⟩::tr,hho hs e1,?_⟩;simp only[fE,hw,yAx,yAN,hal];rw[e2]
theorem aJ0(hU:aJ E){n:Nat}{ops:Ju}{x:Jq×Jp}(hs:(VS ops&&xJ ops&&F0 ops)=true)(h:fI P (l7 E) fl ops ops.toList fr σ=some x):nS P (fA P E n) fl ops fr σ=some x:=by
 simp only[yAr,VS]at hs;obtain⟨⟨h1,h2⟩,h3⟩:=hs;rw[oU]at h1;simp only[yAr]at h1;obtain⟨hreg,hfeet⟩:=h1;have hr:=BE hreg;obtain⟨hs,tr,e1,e2⟩:=IG (n:=n) hU (cP ops.toList []) (λi o ho=>hr.shape i o ho) h2 h3 ops.toList 0 fr σ x Ck h;unfold nS;simp only[hreg,yAK,e1,e2];have hfo:pI ops.toList (cP ops.toList []) tr=true:=by
  simp only[pI,yAn,yAS];simp only[yAn,yAS]at hfeet;intro k hk;have h1:=hfeet k Im;cases hs:eR fX ops.toList k with
  |false=>simp
  |true=>
   rw[hs]at h1;simp only[yBQ,yCa,yAn,yAS]at h1 ⊢;intro i hi;have h2:=h1 i Ia;rw[h2];simp
 rw[yAJ hfo]
theorem WL.KO{rd:Option Nat}{ms:List Nat}{Q:PO->Prop}{ops:Ju}{id:Nat}{y:Code}(hU:aJ E)(_hd:E7 ops=true)(hs:(VS ops&&xJ ops&&F0 ops)=true)(h:SQ P (l7 E) fl ops ops.toList fr σ (λfr' σ'=>Wp P E rd y fl fr' ms σ' Q)) :
  Wp P E rd (.seq (.region id ops true) y) fl fr ms σ Q:=by
 obtain⟨fr',σ',h1,h2⟩:=h.ex;exact .seq ⟨_,.draw (N:=0) (λn _=>aJ0 hU hs h1),.normal h2⟩
end
end
section
open Go
abbrev eK:=Nat->Option Nat
def VT:Op->Option Tmp
 |.fieldAddr _ (.tmp u) _=>some u
 |.nilCheck (.tmp u)=>some u
 |.move (.tmp u)=>some u
 |_=>none
def eK.next(ρ:eK)(o:Oper):eK:=match o.dst with
 |none=>ρ
 |some d=>λt=>if d=t then(match VT o.op with
  |some u=>ρ u
  |none=>none)else ρ t
def eK.jV(ρ:eK):Op->Option Nat
 |.load _ (.tmp t)=>ρ t
 |.store _ (.tmp t) _=>ρ t
 |_=>none
def BQ:eK->List Oper->List (Option Nat)
 |_,[]=>[]
 |ρ,o::l=>ρ.jV o.op::BQ (ρ.next o) l
def eK.ok(ρ:eK)(fr:List PD):Prop:=∀t id id',ρ t=some id->gQ (fr.getD t (.aH []))=some id'->id'=id
def eK.of:List (Nat×Nat)->eK
 | []=>λ_=>none
 |x::l=>λt=>if x.1=t then some x.2 else eK.of l t
def eK.at(fr:List PD):List (Nat×Nat)->Prop
 | []=>True
 |x::l=>(∃off,lk fr x.1=some (.ptr x.2 off))/\eK.at fr l
theorem eK.aCY{fr:Jq}:∀(l:List (Nat×Nat)),eK.at fr l->(eK.of l).ok fr
 | [],_=>λ_ _ _ h=>Co
 |x::l,⟨⟨off,h1⟩,h2⟩=>λt id id' h h'=>by
  unfold eK.of at h
  by_cases e:x.1=t
  .rw[yAJ e]at h;simp only[yAb]at h;rw[O5,e]at h1;rw[yAA,h1]at h';simp only[yDq,gQ,yAb]at h';rw[<-h',h]
  .rw[yAI e]at h;exact eK.aCY l h2 t id id' h h'
section
variable{P:Program}{call:cY}{fl:Nat}{ops:Ju}
theorem eK.aJ1{ρ:eK}{fr:Jq}(h:ρ.ok fr){op:Op}{a b:Nat}(h1:kX fr op=some a)(h2:ρ.jV op=some b):a=b:=by
 unfold eK.jV at h2;split at h2
 .rename_i t;simp only[kX,bD]at h1;exact h _ _ _ h2 h1
 .rename_i t;simp only[kX,bD]at h1;exact h _ _ _ h2 h1
 .cases h2
theorem eK.aCZ{ρ:eK}{fr:Jq}(h:ρ.ok fr){o:Oper}{p:PD}
  (hp:∀u,VT o.op=some u->∀id,gQ p=some id->gQ (fr.getD u (.aH []))=some id):(ρ.next o).ok (bC fr o.dst p):=by
 intro t id id' h1 h2;unfold eK.next at h1;cases hd:o.dst with
 |none=>
  rw[hd]at h1 h2;exact h t id id' h1 h2
 |some d=>
  rw[hd]at h1 h2;simp only[bC]at h1 h2
  by_cases e:d=t
  .rw[yAJ e]at h1;have hpt:gQ p=some id':=by
    subst e;rw[yAA]at h2
    by_cases hlt:d<fr.length
    .rw[yAj hlt]at h2;simpa using h2
    .rw[yBF (by rw[yAD];exact Nat.le_of_not_lt hlt)]at h2;cases h2
   split at h1
   .rename_i u ho;exact h u id id' h1 (hp u ho _ hpt)
   .cases h1
  .rw[yAI e]at h1;rw[yAA,yAd e]at h2;exact h t id id' h1 (by rw[yAA];exact h2)
theorem aJ2{s:TypeId}{x p:PD}{f id:Nat}(h:C4 P s x f=some p)(hp:gQ p=some id):gQ x=some id:=by
 unfold C4 at h
 repeat' split at h
 all_goals first
  |(simp only[yAb]at h;subst h;exact hp)
  |(cases h;done)
def tZ(ops:Array Oper):Bool:=tI ops.toList [] λms=>wI ops ms
end
section
variable{P:Program}{E:aE}{fl:Nat}{fr:Jq}{σ:Jp}
end
end
section
open Go
section
variable{P:Program}{call:cY}{fl:Nat}{ops:Ju}{l:List Oper}{fr aX:Jq}{σ σ1:Jp}{K:List PD->List aA->Prop}
variable{dst:Option Tmp}{x y:Operand}{t u ty:TypeId}{pos:String}{edges:Array Edge}{guard:Option (Nat×Bool)}{p r:PD}{bs:Jr}
end
end
mutual
def PD.flat:PD->Bool
 |.bool _|.int _ _|.str _|.iL|.jR|.gP _=>true
 |.agg cs=>PD.F1 cs
 |.aH cs=>PD.F1 cs
 |_=>false
def PD.F1:List PD->Bool
 | []=>true
 |x::xs=>x.flat&&PD.F1 xs
end
theorem PD.aC0:∀xs:List PD,PD.F1 xs=xs.all PD.flat
 | []=>by simp[PD.F1]
 |x::xs=>by simp[PD.F1,PD.aC0 xs]
theorem VR.flat{c c':Cx}{v:Value}{p:PD}(hv:VR c v p):p.flat=true->VR c' v p:=by
 have at_:∀ {ds:Jq} {i:Nat} {d:PD},PD.F1 ds=true->ds[i]?=some d->d.flat=true:=by
  intro ds i d h hd;rw[PD.aC0]at h;exact yAn.1 h d (yAE hd)
 induction hv with
 |bool b=>intro _;exact .bool b
 |int k n=>intro _;exact .int k n
 |str s=>intro _;exact .str s
 |agg cs ds hl h1 _ ih=>
  intro hp;simp only[PD.flat]at hp;exact ye
 |slice A n cap size xs tok eY hn hc hm hx hf h1 hcl _ ht ih=>intro hp;simp[PD.flat]at hp
 |ptr id off b hd hs hr=>intro hp;simp[PD.flat]at hp
 |dU id off n cap size b hd hs hr h1 h2=>intro hp;simp[PD.flat]at hp
 |aO id ver off n cap size b sF h1 h2=>intro hp;simp[PD.flat]at hp
 |dG id ver off b sF=>intro hp;simp[PD.flat]at hp
 |gC id b hd hn hr=>intro hp;simp[PD.flat]at hp
 |iface t v p _ ih=>intro hp;simp[PD.flat]at hp
 |fK ad eY ds off hl h1 hcl _ ih=>intro hp;simp[PD.flat]at hp
 |iL=>intro _;exact .iL
 |func f cs ds hl _ ih=>intro hp;simp[PD.flat]at hp
 |kZ f cs ds hl _ ih=>intro hp;simp[PD.flat]at hp
 |jR=>intro _;exact .jR
 |gP v h=>intro _;exact .gP v h
 |yield id l hd hn hr=>intro hp;simp[PD.flat]at hp
 |aH cs ds hl _ ih=>
  intro hp;simp only[PD.flat]at hp;exact yp
def Cx.boxed(c:Cx)(a:Addr):Prop:=∃id p b,c.D id/\c.σ[id]?=some (.box p)/\c.ρ id=.pointer (some ⟨b,0,none⟩)/\a.block=b
def Cx.open(c:Cx):Cx:={ w:=c.w,ρ:=λ_=>undef,σ:=[],D:=λ_=>False,X:=λa=>c.av a\/c.boxed a }
structure Hd (R:Prop):Prop where
 out:R
theorem aC{X R G:Prop}(gx:X)(r:R)(h:X->Hd R->G:=by
  (intro gx hh
   (repeat(first
    |(refine Fr.i ?_;simp only[bC,yBo,yBt];try rfl)
    |(refine By.i ?_;(focus(simp(disch:=first|omega|(simp;done)|(simp;omega)) [wrap_i64,wrap_u64,gx,entry,xI,cK,eM,wF];first|done|rfl|exact⟨rfl,rfl⟩)))
    |(refine By.i ?_;simp(disch:=first|omega|(simp;done)|(simp;omega)) [wrap_i64,wrap_u64,gx,entry,xI,cK,eM,wF];refine⟨Cz,rfl⟩)
    |(refine Wt.i ?_;first|rfl|(focus(simp[gx,entry,xI,cK,eM,wF];done)))
    |(refine Ns.i ?_;(try simp only[yAl,yAV,yBs,yAi,yAa,yAT,yAO,yAp,Nat.reduceAdd]);rfl)|rfl
    |(apply SL.pass;(focus(refine Wt.i ?_;rfl)))|(apply tu;(focus decide +kernel))|(apply tu;(focus rfl))|apply SL.move|apply SL.assign|apply SL.load|apply SL.yV|apply tu|apply SL.make
    |apply SL.binOp|apply SL.append|(apply SL.aT3;(focus decide +kernel))|apply tu|apply SL.builtin|apply SL.fieldAddr|apply SL.indexAddr|apply SL.field|apply SL.extract|(apply tu;rotate_left;(focus rfl);rotate_right)|apply SL.yW|apply SL.pick|apply SL.store|apply SL.unOp|apply SL.convert|apply SL.index
    |apply SL.slice|apply SL.build|apply tu|apply SL.buildSlice|apply SL.box|apply SL.alloc|apply SL.makeFunc|apply tu|apply SQ.nil|(apply WL.tH;(focus decide +kernel))
    |(apply WL.CY Cs;(focus decide +kernel);(focus decide +kernel))|(apply tu;(focus decide +kernel);(focus decide +kernel))|(apply WL.KJ;(focus decide +kernel))
    |(apply WL.KK Cs;(focus decide +kernel);(focus decide +kernel))|(apply WL.KL;(focus decide +kernel);(focus decide +kernel))|(apply tu Cs;(focus decide +kernel);(focus decide +kernel))
    |(apply WL.KN Cs;(focus decide +kernel);(focus decide +kernel))|(apply WL.KO Cs;(focus decide +kernel);(focus decide +kernel))
    |(apply tu Cs;(focus decide +kernel);(focus decide +kernel))|apply tu|(apply WL.ct;(focus rfl))|(apply WL.cf;(focus rfl))|refine mQ.normal ?_|refine mQ.ret ?_|refine mQ.exit ?_
    |refine kJ.normal ?_|refine kJ.ret ?_|refine kJ.here ?_|refine tu Cn ?_|refine Wp.block ?_|refine Wp.skip ?_|refine Wp.ret ?_|refine Wp.exit ?_|refine bM.ret ?_|refine bM.exit ?_
    |refine nM.normal ?_|refine nM.ret ?_|refine nM.exit ?_|refine Wp.seq (Wp.seq ?_)|refine Wp.seq (Wp.block ?_)|(refine Wp.seq ?_;apply WL.ct;(focus rfl))|(refine Wp.seq ?_;apply WL.cf;(focus rfl))))
   exact hh.out)):G:=h gx ⟨r⟩
theorem nN{X R G:Prop}(gx:X)(r:R)(h:X->Hd R->G:=by
  (intro gx hh
   (repeat(first
    |(refine Fr.i ?_;simp only[bC,yBo,yBt];try rfl)
    |(refine By.i ?_;(focus(simp(disch:=first|omega|(simp;done)|(simp;omega)) [wrap_i64,wrap_u64,gx];first|done|rfl|exact⟨rfl,rfl⟩)))
    |(refine By.i ?_;simp(disch:=first|omega|(simp;done)|(simp;omega)) [wrap_i64,wrap_u64,gx];refine⟨Cz,rfl⟩)
    |(refine Wt.i ?_;first|rfl|(focus(simp[gx];done)))
    |(refine Ns.i ?_;(try simp only[yAl,yAV,yBs,yAi,yAa,yAT,yAO,yAp,Nat.reduceAdd]);rfl)|rfl
    |(apply SL.pass;(focus(refine Wt.i ?_;rfl)))|(apply tu;(focus rfl))|apply SL.move|apply SL.assign|apply SL.load|apply SL.yV|apply tu|apply SL.make|apply SL.binOp|apply SL.append
    |apply tu|apply SL.builtin|apply SL.fieldAddr|apply SL.indexAddr|apply SL.field|apply SL.extract|apply SL.yW|apply SL.pick|apply SL.store|apply SL.unOp|apply SL.convert|apply SL.index|apply SL.slice
    |apply SL.build|apply tu|apply SL.buildSlice|apply SL.box|apply SL.alloc|apply SL.makeFunc))
   exact hh.out)):G:=h gx ⟨r⟩
theorem oS{X R G:Prop}(gx:X)(r:R)(h:X->Hd R->G:=by
  (intro gx hh
   (repeat(first
    |(refine Fr.i ?_;simp only[bC,yBo,yBt];try rfl)
    |(refine By.i ?_;(focus(simp(disch:=first|omega|(simp;done)|(simp;omega)) [wrap_i64,wrap_u64,gx];first|done|rfl|exact⟨rfl,rfl⟩)))
    |(refine By.i ?_;simp(disch:=first|omega|(simp;done)|(simp;omega)) [wrap_i64,wrap_u64,gx];refine⟨Cz,rfl⟩)
    |(refine Wt.i ?_;first|rfl|(focus(simp[gx];done)))
    |(refine Ns.i ?_;(try simp only[yAl,yAV,yBs,yAi,yAa,yAT,yAO,yAp,Nat.reduceAdd]);rfl)|rfl
    |(apply SL.pass;(focus(refine Wt.i ?_;rfl)))|(apply tu;(focus rfl))|apply SL.move|apply SL.assign|apply SL.load|apply SL.yV|apply tu|apply SL.make|apply SL.binOp|apply SL.append|apply tu
    |apply SL.builtin|apply SL.fieldAddr|apply SL.indexAddr|apply SL.field|apply SL.extract|apply SL.yW|apply SL.pick|apply SL.store|apply SL.unOp|apply SL.convert|apply SL.index|apply SL.slice|apply SL.build
    |apply tu|apply SL.buildSlice|apply SL.box|apply SL.alloc|apply SL.makeFunc))
   exact hh.out)):G:=h gx ⟨r⟩
theorem CZ{X R G:Prop}(gx:X)(r:R)(h:X->Hd R->G:=by
  (intro gx hh
   (repeat(first
    |(refine Fr.i ?_;simp only[bC,yBo,yBt];try rfl)
    |(refine By.i ?_;(focus(simp(disch:=first|omega|(simp;done)|(simp;omega)) [wrap_i64,wrap_u64,gx];first|done|rfl|exact⟨rfl,rfl⟩)))
    |(refine By.i ?_;simp(disch:=first|omega|(simp;done)|(simp;omega)) [wrap_i64,wrap_u64,gx];refine⟨Cz,rfl⟩)
    |(refine Wt.i ?_;first|rfl|(focus(simp[gx];done)))
    |(refine Ns.i ?_;(try simp only[yAl,yAV,yBs,yAi,yAa,yAT,yAO,yAp,Nat.reduceAdd]);rfl)|rfl
    |(apply SL.pass;(focus(refine Wt.i ?_;rfl)))|(apply tu;(focus rfl))|apply SL.move|apply SL.assign|apply SL.load|apply SL.yV|apply tu|apply SL.make|apply SL.binOp|apply SL.append
    |apply tu|apply SL.builtin|apply SL.fieldAddr|apply SL.indexAddr|apply SL.field|apply SL.extract|apply SL.yW|apply SL.pick|apply SL.store|apply SL.unOp|apply SL.convert|apply SL.index
    |apply SL.slice|apply SL.build|(apply SL.OU;rotate_left;(focus rfl);rotate_right)|apply tu|apply SL.buildSlice|apply SL.box|apply SL.alloc|apply SL.makeFunc|apply SQ.nil
    |(apply WL.tH;(focus decide +kernel))|(apply WL.CY Cs;(focus decide +kernel);(focus decide +kernel))|(apply tu;(focus decide +kernel);(focus decide +kernel))
    |(apply WL.KJ;(focus decide +kernel))|(apply WL.KK Cs;(focus decide +kernel);(focus decide +kernel))|(apply WL.KL;(focus decide +kernel);(focus decide +kernel))
    |(apply tu Cs;(focus decide +kernel);(focus decide +kernel))|(apply WL.KN Cs;(focus decide +kernel);(focus decide +kernel))
    |(apply WL.KO Cs;(focus decide +kernel);(focus decide +kernel))|(apply tu Cs;(focus decide +kernel);(focus decide +kernel))|apply tu|(apply WL.ct;(focus rfl))
    |(apply WL.cf;(focus rfl))|refine mQ.normal ?_|refine mQ.ret ?_|refine mQ.exit ?_|refine kJ.normal ?_|refine kJ.ret ?_|refine kJ.here ?_|refine tu Cn ?_|refine Wp.block ?_
    |refine Wp.skip ?_|refine Wp.ret ?_|refine Wp.exit ?_|refine bM.ret ?_|refine bM.exit ?_|refine nM.normal ?_|refine nM.ret ?_|refine nM.exit ?_|refine Wp.seq (Wp.seq ?_)
    |refine Wp.seq (Wp.block ?_)|(refine Wp.seq ?_;apply WL.ct;(focus rfl))|(refine Wp.seq ?_;apply WL.cf;(focus rfl))))
   exact hh.out)):G:=h gx ⟨r⟩
theorem OV{X R G:Prop}(gx:X)(r:R)(h:X->Hd R->G:=by
  (intro gx hh
   (repeat(first
    |(refine Fr.i ?_;simp only[bC,yBo,yBt];try rfl)
    |(refine By.i ?_;(focus(simp(disch:=first|omega|(simp;done)|(simp;omega)) [wrap_i64,wrap_u64,gx];first|done|rfl|exact⟨rfl,rfl⟩)))
    |(refine By.i ?_;simp(disch:=first|omega|(simp;done)|(simp;omega)) [wrap_i64,wrap_u64,gx];refine⟨Cz,rfl⟩)
    |(refine Wt.i ?_;first|rfl|(focus(simp[gx];done)))
    |(refine Ns.i ?_;(try simp only[yAl,yAV,yBs,yAi,yAa,yAT,yAO,yAp,Nat.reduceAdd]);rfl)|rfl
    |(apply SL.pass;(focus(refine Wt.i ?_;rfl)))|(apply tu;(focus rfl))|apply SL.move|apply SL.assign|apply SL.load|apply SL.yV|apply tu|apply SL.make|apply SL.binOp|apply SL.append
    |apply tu|apply SL.builtin|apply SL.fieldAddr|apply SL.indexAddr|apply SL.field|apply SL.extract|apply SL.yW|apply SL.pick|apply SL.store|apply SL.unOp|apply SL.convert|apply SL.index|apply SL.slice
    |apply SL.build|(apply SL.OU;rotate_left;(focus rfl);rotate_right)|apply tu|apply SL.buildSlice|apply SL.box|apply SL.alloc|apply SL.makeFunc|apply SQ.nil|(apply WL.tH;(focus decide +kernel))
    |(apply WL.CY Cs;(focus decide +kernel);(focus decide +kernel))|(apply tu;(focus decide +kernel);(focus decide +kernel))|(apply WL.KJ;(focus decide +kernel))
    |(apply WL.KK Cs;(focus decide +kernel);(focus decide +kernel))|(apply WL.KL;(focus decide +kernel);(focus decide +kernel))
    |(apply tu Cs;(focus decide +kernel);(focus decide +kernel))|(apply WL.KN Cs;(focus decide +kernel);(focus decide +kernel))
    |(apply WL.KO Cs;(focus decide +kernel);(focus decide +kernel))|(apply tu Cs;(focus decide +kernel);(focus decide +kernel))|apply tu|(apply WL.ct;(focus rfl))
    |(apply WL.cf;(focus rfl))|refine mQ.normal ?_|refine mQ.ret ?_|refine mQ.exit ?_|refine kJ.normal ?_|refine kJ.ret ?_|refine kJ.here ?_|refine tu Cn ?_|refine Wp.block ?_
    |refine Wp.skip ?_|refine Wp.ret ?_|refine Wp.exit ?_|refine bM.ret ?_|refine bM.exit ?_|refine nM.normal ?_|refine nM.ret ?_|refine nM.exit ?_|refine Wp.seq (Wp.seq ?_)|refine Wp.seq (Wp.block ?_)
    |(refine Wp.seq ?_;apply WL.ct;(focus rfl))|(refine Wp.seq ?_;apply WL.cf;(focus rfl))))
   exact hh.out)):G:=h gx ⟨r⟩
theorem T8{X R G:Prop}(gx:X)(r:R)(h:X->Hd R->G:=by
  (intro gx hh
   (repeat(first
    |(refine Fr.i ?_;simp only[bC,yBo,yBt];try rfl)
    |(refine By.i ?_;(focus(simp(disch:=first|omega|(simp;done)|(simp;omega)) [wrap_i64,wrap_u64,gx];first|done|rfl|exact⟨rfl,rfl⟩)))
    |(refine By.i ?_;simp(disch:=first|omega|(simp;done)|(simp;omega)) [wrap_i64,wrap_u64,gx];refine⟨Cz,rfl⟩)
    |(refine Wt.i ?_;first|rfl|(focus(simp[gx];done)))
    |(refine Ns.i ?_;(try simp only[yAl,yAV,yBs,yAi,yAa,yAT,yAO,yAp,Nat.reduceAdd]);rfl)|rfl
    |(apply SL.pass;(focus(refine Wt.i ?_;rfl)))|(apply tu;(focus rfl))|apply SL.move|apply SL.assign|apply SL.load|apply SL.yV|apply tu|apply SL.make|apply SL.binOp|apply SL.append|apply tu
    |apply SL.builtin|apply SL.fieldAddr|apply SL.indexAddr|apply SL.field|apply SL.extract|apply SL.yW|apply SL.pick|apply SL.store|apply SL.unOp|apply SL.convert|apply SL.index|apply SL.slice|apply SL.build
    |(apply SL.OU;rotate_left;(focus rfl);rotate_right)|apply tu|apply SL.buildSlice|apply SL.box|apply SL.alloc|apply SL.makeFunc))
   exact hh.out)):G:=h gx ⟨r⟩
theorem aBx{X R G:Prop}(gx:X)(r:R)(h:X->Hd R->G:=by
  (intro gx hh
   (repeat(first
    |(refine Fr.i ?_;simp only[bC,yBo,yBt];try rfl)
    |(refine By.i ?_;(focus(simp(disch:=first|omega|(simp;done)|(simp;omega)) [wrap_i64,wrap_u64,gx];first|done|rfl|exact⟨rfl,rfl⟩)))
    |(refine By.i ?_;simp(disch:=first|omega|(simp;done)|(simp;omega)) [wrap_i64,wrap_u64,gx];refine⟨Cz,rfl⟩)
    |(refine Wt.i ?_;first|rfl|(focus(simp[gx];done)))
    |(refine Ns.i ?_;(try simp only[yAl,yAV,yBs,yAi,yAa,yAT,yAO,yAp,Nat.reduceAdd]);rfl)|rfl
    |(apply SL.pass;(focus(refine Wt.i ?_;rfl)))|(apply tu;(focus rfl))|apply SL.move|apply SL.assign|apply SL.load|apply SL.yV|apply tu|apply SL.make|apply SL.binOp|apply SL.append
    |apply tu|apply SL.builtin|apply SL.fieldAddr|apply SL.indexAddr|apply SL.field|apply SL.extract|apply SL.yW|apply SL.pick|apply SL.store|apply SL.unOp|apply SL.convert|apply SL.index|apply SL.slice
    |apply SL.build|(apply SL.OU;rotate_left;(focus rfl);rotate_right)|apply tu|apply SL.buildSlice|apply SL.box|apply SL.alloc|apply SL.makeFunc|apply SQ.nil|(apply WL.tH;(focus decide +kernel))
    |(apply WL.CY Cs;(focus decide +kernel);(focus decide +kernel))|(apply tu;(focus decide +kernel);(focus decide +kernel))|(apply WL.KJ;(focus decide +kernel))
    |(apply WL.KK Cs;(focus decide +kernel);(focus decide +kernel))|(apply WL.KL;(focus decide +kernel);(focus decide +kernel))|(apply tu Cs;(focus decide +kernel);(focus decide +kernel))
    |(apply WL.KN Cs;(focus decide +kernel);(focus decide +kernel))|(apply WL.KO Cs;(focus decide +kernel);(focus decide +kernel))
    |(apply tu Cs;(focus decide +kernel);(focus decide +kernel))|apply tu|(apply WL.ct;(focus rfl))|(apply WL.cf;(focus rfl))|refine mQ.normal ?_|refine mQ.ret ?_|refine mQ.exit ?_
    |refine kJ.normal ?_|refine kJ.ret ?_|refine kJ.here ?_|refine tu Cn ?_|refine Wp.block ?_|refine Wp.skip ?_|refine Wp.ret ?_|refine Wp.exit ?_|refine bM.ret ?_|refine bM.exit ?_
    |refine nM.normal ?_|refine nM.ret ?_|refine nM.exit ?_|refine Wp.seq (Wp.seq ?_)|refine Wp.seq (Wp.block ?_)|(refine Wp.seq ?_;apply WL.ct;(focus rfl))|(refine Wp.seq ?_;apply WL.cf;(focus rfl))))
   exact hh.out)):G:=h gx ⟨r⟩
theorem JH{c:Cx}{vs:Js}{n:Nat}(h:aY c vs [.slice n [] .any]):aY c vs [.slice n [] .j7]\/aY c vs [.slice n [] .kY]:=by
 obtain⟨h1,h2⟩:=h
 match vs,h1 with
 | [v],_=>
   have hv:=h2 0 v _ rfl rfl;obtain⟨A,cap,fl,rfl,a1,a2,a3,a4,a5,a6,a7,a8⟩:=hv.pK;have one:∀d,VR c (.slice A ([]:List PD).length cap) d->aY c [.slice A ([]:List PD).length cap] [d]:=λd hd=>⟨rfl,λi v d' e1 e2=>by
    cases i with
    |zero=>simp at e1 e2;subst e1 e2;exact hd
    |succ i=>simp at e1⟩
   cases A with
   |none=>exact .inl (one _ (.slice none _ cap n [] .j7 fl rfl a1 a2 a3 a4 a5 a6 a7 ⟨_,_,rfl⟩))
   |some a=>exact .inr (one _ (.slice (some a) _ cap n [] .kY fl rfl a1 a2 a3 a4 a5 a6 a7 ⟨_,_,_,rfl⟩))
section
open Go
section
variable{P:Program}{call:cY}{fl:Nat}{ops:Ju}
theorem SS:∀(l:List Oper) (i k:Nat) (fr:List PD) (σ:List aA) (tr:List TE) (fr':List PD) (σ':List aA) (ρ:eK),
  p8 P call fl ops i k l fr σ=some (tr,fr',σ')->ρ.ok fr->∀j a b,(tr[j]?).bind TE.jV=some a->(BQ ρ l).getD j none=some b->a=b
 | [],_,_,_,_,_,_,_,_,_,_,_,_,_,_,h2=>by simp[BQ]at h2
 |o::l,i,k,fr,σ,tr,fr',σ',ρ,h,hρ,j,a,b,h1,h2=>by
  simp only[p8]at h;split at h
  .split at h
   .rename_i p σ1 hop;split at h
    .rename_i qU aX σ2 hrec;simp only[yAb,yAc]at h;obtain⟨rfl,rfl,rfl⟩:=h;cases j with
     |zero=>
      simp only[yBj,yCJ]at h1;simp only[BQ,List.getD_cons_zero]at h2;exact eK.aJ1 hρ h1 h2
     |succ j=>
      simp only[yBz]at h1;simp only[BQ,yEl]at h2;refine SS l _ _ _ _ _ _ _ _ hrec (eK.aCZ hρ ?_) j a b h1 h2;intro u ho id hp;unfold VT at ho;split at ho
      .rename_i s u' f NT;simp only[yAb]at ho;subst ho;rw[NT]at hop;simp only[iA,fB,yAK,eP,bD]at hop;split at hop
       .rename_i p' hp';simp only[yAb,yAc]at hop;obtain⟨rfl,rfl⟩:=hop;exact aJ2 hp' hp
       .cases hop
      .rename_i u' NT;simp only[yAb]at ho;subst ho;rw[NT]at hop;simp only[iA,fB,yAK,eP,bD]at hop;split at hop
       .rename_i p' hp';simp only[yAb,yAc]at hop;obtain⟨rfl,rfl⟩:=hop;split at hp'
        .rename_i id' off' e;exact mo
        .rename_i cs off e;exact mo
        .rename_i id' fS off' e;exact mo
        .cases hp'
       .cases hop
      .rename_i u' NT;simp only[yAb]at ho;subst ho;rw[NT]at hop;simp only[iA,fB,yAK,eP,bD,yAb,yAc]at hop;rw[hop.1];exact hp
      .cases ho
    .cases h
   .cases h
  .split at h
   .rename_i qU aX σ2 hrec;simp only[yAb,yAc]at h;obtain⟨rfl,rfl,rfl⟩:=h;cases j with
    |zero=>simp at h1
    |succ j=>
     simp only[yBz]at h1;simp only[BQ,yEl]at h2;exact SS l _ _ _ _ _ _ _ _ hrec (eK.aCZ hρ λ_ _ _ hp=>by cases hp) j a b h1 h2
   .cases h
end
open Classical in
def uN(E:aE)(B:List Nat):cY:=λfl tg args σ=>match gU E fl tg args σ with
 |some (p,σ')=>if σ.length<=σ'.length/\(∀id∈B,id<σ.length->σ'[id]?=σ[id]?)then some (p,σ')else none
 |none=>none
theorem pT{E:aE}{B:List Nat}{fl f:Nat}{g:Jk}{args:Jq}{σ σ':Jp}{p:PD}(hE:E f=some g)(h:g fl args σ=some (p,σ'))(hl:σ.length<=σ'.length)(hk:∀id∈B,id<σ.length->σ'[id]?=σ[id]?) :
  uN E B fl (.inl f) args σ=some (p,σ'):=by
 have e:gU E fl (.inl f) args σ=some (p,σ'):=by simp only[gU,hE,h]
 unfold uN;rw[e];simp only;rw[yAJ ⟨hl,hk⟩]
theorem aGf{E:aE}{B:List Nat}{fl:Nat}{tg:FuncId ⊕ Nat}{args:Jq}{σ σ':Jp}{p:PD}(h:uN E B fl tg args σ=some (p,σ')):gU E fl tg args σ=some (p,σ')/\σ.length<=σ'.length/\∀id∈B,id<σ.length->σ'[id]?=σ[id]?:=by
 unfold uN at h;split at h
 .rename_i p1 σ1 e;split at h
  .rename_i hc;simp only[yAb,yAc]at h;obtain⟨rfl,rfl⟩:=h;exact⟨e,hc⟩
  .cases h
 .cases h
def G0(ops:List Oper):Bool:=ops.all λo=>!dA o.op&&(!dR o.op||(match o.op with
 |.call { callee:=.value _,.. }=>true
 |_=>false))
section
variable{P:Program}{E:aE}{fl:Nat}{ops:Ju}
theorem TE.SW{t:TE}{tr:List TE}{wO:Jp}:TE.at (t::tr) wO 0=t.σ:=rfl
theorem TE.xC{t:TE}{tr:List TE}{wO:Jp}{j:Nat}:TE.at (t::tr) wO (j+1)=TE.at tr wO j:=by simp[TE.at]
theorem TE.SX{tr:List TE}{σ:Jp}{fr fr':Jq}{σ':Jp}{call:cY}{i k:Nat}{l:List Oper}(h:p8 P call fl ops i k l fr σ=some (tr,fr',σ')):TE.at tr σ' 0=σ:=by
 cases l with
 |nil=>
  simp only[p8,yAb,yAc]at h;obtain⟨rfl,_,rfl⟩:=h;rfl
 |cons o l=>
  simp only[p8]at h;split at h
  .split at h
   .exact um
   .cases h
  .exact um
theorem aAt{B:List Nat}{n:Nat}:∀(l:List Oper) (i k:Nat) (fr:List PD) (σ:List aA) (x:Jq×List aA),(∀o∈l,(fB o.op||eJ o.op||dA o.op||mS o.op||eS o.op)=true)->G0 l=true ->
  fI P (uN E B) fl ops l fr σ=some x->∃tr,p8 P (fA P E n) fl ops i k l fr σ=some (tr,x.1,x.2) /\
   ∀(j:Nat) (o:Oper),l[j]?=some o->dR o.op=true->(TE.at tr x.2 j).length<=(TE.at tr x.2 (j+1)).length/\∀id∈B,id<(TE.at tr x.2 j).length->(TE.at tr x.2 (j+1))[id]?=(TE.at tr x.2 j)[id]?
 | [],_,_,_,_,x,_,_,h=>by
   exact xm
 |o::l,i,k,fr,σ,x,hsh,hk,h=>by
  simp only[G0,yCh,yAr,yBv]at hk;obtain⟨⟨hka,hkm⟩,hkl⟩:=hk;simp only[fI]at h;split at h
  .rename_i hw;split at h
   .rename_i p σ1 hp;obtain⟨tr,h1,h2⟩:=aAt (n:=n) l (i+1) k _ _ x (λo ho=>hsh o (by simp[ho])) hkl h;have hst:cZ P (fA P E n) fl fr σ o.op=some (p,σ1)/\(dR o.op=true->σ.length<=σ1.length/\∀id∈B,id<σ.length->σ1[id]?=σ[id]?):=by
     unfold cZ at hp ⊢;split at hp
     .rename_i tg args hc;obtain⟨q1,q2,q3⟩:=aGf hp;exact⟨UI q1,λ_=>⟨q2,q3⟩⟩
     .rename_i hc;refine⟨hp,λhm=>?_⟩;rw[hm]at hkm;simp only[yBQ,yCa]at hkm
      exfalso
      split at hkm
      .rename_i g args ts hop;unfold pop at hp;rw[hop]at hp;simp[eP,dE]at hp
      .cases hkm
    refine⟨⟨fr,σ,p,kX fr o.op⟩::tr,?_,?_⟩
    .exact so
    .intro j o' ho' hm;cases j with
     |zero=>
      simp only[yBj,yAb]at ho';subst ho';rw[TE.xC,TE.SW,TE.SX h1];exact hst.2 hm
     |succ j=>
      exact jr
   .cases h
  .rename_i hw;obtain⟨tr,h1,h2⟩:=aAt (n:=n) l (i+1) k _ _ x (λo ho=>hsh o (by simp[ho])) hkl h;exact gq
theorem aAu:∀ {l:List Oper},G0 l=true->mT P l=some []
 | [],_=>rfl
 |o::l,h=>by
  simp only[G0,yCh,yAr,yBv]at h;obtain⟨⟨ha,_⟩,hl⟩:=h;unfold mT;split
  .rename_i t ho;rw[ho]at ha;cases ha
  .exact aAu hl
def G1(ops:List Oper)(ρ:eK):List (Option Nat):=tI ops [] λms=>
 (List.range ops.length).flatMap λk=>if eR dR ops k then(List.range ops.length).filterMap λi=>if eR eJ ops i&&loose ms i k then some ((BQ ρ ops).getD i none)else none else []
def qG(B:List Nat):List (Option Nat)->Prop
 | []=>True
 |some a::l=>a∈B/\qG B l
 |none::_=>False
theorem aAv{B:List Nat}:∀ {l:List (Option Nat)},qG B l->∀x,x∈l->∃a,x=some a/\a∈B
 | [],_,_,h=>Co
 |some a::l,h,x,hm=>by
  rcases yBn.1 hm with rfl|hm
  .exact⟨a,rfl,h.1⟩
  .exact aAv h.2 x hm
 |none::_,h,_,_=>h.elim
def aAq(f:Oper->Bool)(ops:List Oper)(i:Nat):Bool:=((ops[i]?).map f).getD false
def aAr(f:Nat)(o:Oper):Bool:=o.guard.isNone&&(match o.op with
 |.call { callee:=.value (.func g),.. }=>decide (g=f)
 |_=>false)
end
end
theorem aGa{F:Fence}{P:Program}(hF:Open F P)(m:Machine):m.fenced P F:=by
 intro g _;refine⟨λh=>?_,Or.inl (hF.fn _),λ_ _=>hF.fn _,λ_ h=>?_⟩
 .rw[hF.alive]at h;cases h
 .rw[hF.depth]at h;cases h
theorem aQQ{F:Fence}{P:Program}(hF:Open F P){m m':Machine}{e:Ending}(h:Comes P m m' e):ComesIn (Machine.fenced P F) P m m' e:=by
 cases e with
 |returned v=>exact(StepsIn.of_steps h).mono λm _=>aGa hF m
 |panicked chain=>exact(StepsIn.of_steps h).mono λm _=>aGa hF m
 |outgrown=>exact h
theorem aQR{F:Fence}{P:Program}(hF:Open F P){n:Nat}{f:FuncId}{args:Jt}{w:World}{R:Ending->World->Prop}(h:Calls P f args w R):CallsIn F n P f args w R:=
 ⟨hF.fn f,λcs _=>let ⟨e,w',fr,r,s,x⟩:=h cs;⟨e,w',fr,r,aQQ hF s,x⟩⟩
theorem aF.JR{P:Program}{E:aE}(hE:aF P E){f:FuncId}{g:Jk}(hf:∃fn,P.funcs[f]?=some fn/\fn.body.isSome=true)
  (h:∀(fl:Nat) (args:List PD) (c:Cx) (vs:List Value) (p:PD) (σ':List aA),g fl args c.σ=some (p,σ')->Sr c->Xw fl c->aY c vs args->Calls P f vs.toArray c.w (FK fl c p σ')):aF P (E.add f g):=by
 intro F fl f' g' args c vs p σ' hF hg hgo hs hX hv;unfold aE.add at hg;split at hg
 .rename_i e;subst e;simp only[yAb]at hg;subst hg;exact⟨hf,λm=>aQR hF (h fl args c vs p σ' hgo hs hX hv)⟩
 .exact je
theorem aF.JQ{P:Program}{E:aE}(hE:aF P E){f:FuncId}{g:List PD->Option PD}(hf:∃fn,P.funcs[f]?=some fn/\fn.body.isSome=true)
  (h:∀(args:List PD) (c:Cx) (vs:List Value) (p:PD),g args=some p->Sr c->aY c vs args->Calls P f vs.toArray c.w λe w'=>∃v,e=.returned v/\c.w.grownBy w' none/\(Sr (c.at w')->VR (c.at w') v p)):aF P (E.add f (entry g)):=by
 refine hE.JR hf λfl args c vs p σ' hg hs _ hv=>?_
 unfold entry at hg;cases hga:g args with
 |none=>rw[hga]at hg;cases hg
 |some q=>
  rw[hga]at hg;simp only[yAb,yAc]at hg;obtain⟨rfl,rfl⟩:=hg;refine yBC (h args c vs q hga hs hv) λe w' he=>?_
  obtain⟨v,rfl,hgr,hvv⟩:=he;have hs':=hs.grow hgr;exact⟨c.at w',rfl,rfl,hs',Nx.grow hs hgr,hvv hs',λ_ h=>.inl h⟩
theorem grownBy_refl(w:World):w.grownBy w none:=⟨rfl,rfl,rfl,yAk _,λ_ _ _=>rfl⟩
theorem SN{c:Cx}{vs:Js}{p:PD}(h:aY c vs [p]):∃v,vs=[v]/\VR c v p:=by
 match vs,h.1 with
 | [v],_=>exact⟨v,rfl,h.2 0 _ _ rfl rfl⟩
theorem NP{c:Cx}{vs:Js}{p q:PD}(h:aY c vs [p,q]):∃v u,vs=[v,u]/\VR c v p/\VR c u q:=by
 match vs,h.1 with
 | [v,u],_=>exact⟨v,u,rfl,h.2 0 _ _ rfl rfl,h.2 1 _ _ rfl rfl⟩
theorem VR.int_eq{c:Cx}{v:Value}{k:IntKind}{n:Int}(h:VR c v (.int k n)):v=.int k n:=Ft
theorem VR.NQ{c:Cx}{v:Value}{s:Jr}(h:VR c v (.str s)):v=.string ⟨s.toArray⟩:=Ft
theorem aQS{α β:Type}{a:Em α}{r:Em β}{F:α->Option β}{args:Jq}{p:PD}(h:cK a r F args=some p):∃x z,args.map PD.strip=[a.aB x]/\F x=some z/\p=r.aB z:=by
 match args,h with
 | [q],h=>
   simp only[cK]at h;split at h
   .rename_i x hx;split at h
    .rename_i z hz;simp only[yAb]at h;exact⟨x,z,by simp[Em.oD hx],hz,h.symm⟩
    .cases h
   .cases h
theorem aQT{α β γ:Type}{a:Em α}{b:Em β}{r:Em γ}{F:α->β->Option γ}{args:Jq}{p:PD}(h:eM a b r F args=some p):∃x y z,args.map PD.strip=[a.aB x,b.aB y]/\F x y=some z/\p=r.aB z:=by
 match args,h with
 | [q1,q2],h=>
   simp only[eM]at h;split at h
   .rename_i x y hx hy;split at h
    .rename_i z hz;simp only[yAb]at h;exact⟨x,y,z,by simp[Em.oD hx,Em.oD hy],hz,h.symm⟩
    .cases h
   .cases h
section
section
variable{c:Cx}{w':World}{id n cap g size:Nat}{e:TypeId}{cur:Jt}{fz NS:Nat×Nat}
theorem aQU(hg:c.w.heap[g]?=some (.cells cur e fz))(h1:∀k,k≠g->w'.heap[k]?=c.w.heap[k]?)(h2:w'.heap[g]?=some (.cells cur e NS))(a:Addr):w'.cell? a=c.w.cell? a:=by
 unfold World.cell?
 by_cases h:a.block=g
 .rw[h,hg,h2]
 .rw[h1 _ h]
theorem Nx.SO{fl:Nat}(hd:c.D id)(hρ:c.ρ id=.slice (some ⟨g,0,none⟩) n cap)(hfl:fl<=id)(hg:c.w.heap[g]?=some (.cells cur e fz))
  (h0:w'.os=c.w.os/\w'.tape=c.w.tape/\w'.output=c.w.output/\w'.heap.size=c.w.heap.size) (h1:∀k,k≠g->w'.heap[k]?=c.w.heap[k]?) (h2:w'.heap[g]?=some (.cells cur e NS)):Nx fl c (c.at w') where
 X:=rfl
 os:=h0.1
 tape:=h0.2.1
 output:=h0.2.2.1
 size:=Nat.le_of_eq h0.2.2.2.symm
 len:=yAk _
 cell:=λa v ha hv=>⟨ha,by show w'.cell? a=_;rw[aQU hg h1 h2];exact hv⟩
 bJ:=λ_ h=>h
 new:=λ_ h=>.inl h
 tQ:=λ_ p _ h=>⟨rfl,p,h⟩
 oF:=λ_ _ h=>⟨rfl,h⟩
 u6:=λ_ _ _ n _ h=>⟨n,h,yAk _,λ_=>rfl⟩
 vA:=λ_ _ _ v cs _ h=>⟨v,cs,h,yAk _,λ_=>rfl⟩
 back:=λ_ _ h h' _=>⟨h,h'⟩
 frame:=λk _ hx=>h1 k λe=>hx id hd hfl (by rw[hρ,e];rfl)
 ro:=λ_ _ _=>rfl
 hole:=λ_ _ _=>rfl
theorem Sr.SO(hs:Sr c)(hd:c.D id)(hq:c.σ[id]?=some (.own e size n))(hρ:c.ρ id=.slice (some ⟨g,0,none⟩) n cap)(hg:c.w.heap[g]?=some (.cells cur e fz))
  (h0:w'.os=c.w.os/\w'.tape=c.w.tape/\w'.output=c.w.output/\w'.heap.size=c.w.heap.size) (h1:∀k,k≠g->w'.heap[k]?=c.w.heap[k]?) (h2:w'.heap[g]?=some (.cells cur e NS)) (h3:NS.2<=n*size):Sr (c.at w'):=by
 have hb:bE (c.ρ id)=some g:=by rw[hρ];rfl
 have nx:Nx 0 c (c.at w'):=Nx.SO hd hρ (yAF _) hg h0 h1 h2;have far:∀i b,c.D i->i≠id->bE (c.ρ i)=some b->w'.heap[b]?=c.w.heap[b]?:=λi b hi hne hbi=>h1 b λe'=>hs.inj i id b hi hd hne hbi (by rw[e'];exact hb)
 have hne:∀i (o:aA),c.σ[i]?=some o->(∀e s m,o≠.own e s m)->i≠id:=λi o ho hno e'=>by
  subst e';rw[hq]at ho;simp only[yAb]at ho;exact hno _ _ _ ho.symm
 refine⟨?_,?_,?_,?_,?_,?_,hs.inj,?_,hs.bJ,?_,hs.kG.mono nx⟩
 .intro i p hi hp;obtain⟨b',cs',T',e1,e2,e3,e4⟩:=hs.box i p hi hp;exact⟨b',cs',T',e1,by show w'.heap[b']?=_;rw[far i b' hi (hne i _ hp (λ_ _ _ e=>Dh)) Gr];exact e2,e3.mono nx,e4⟩
 .intro i e0 s m hi ho
  by_cases hii:i=id
  .subst hii;have ho':c.σ[i]?=some (.own e0 s m):=ho;rw[hq]at ho';simp only[yAb,aA.own.injEq]at ho';obtain⟨rfl,rfl,rfl⟩:=ho';obtain⟨xs,hx⟩:=hs.own i _ _ _ hi hq;refine⟨xs,hx.1,?_⟩;rcases hx.2 with hv | ⟨g1,aGb,aJt,fz1,hv,hb1,iE,_,r⟩
   .rw[hρ]at hv;simp at hv
   .rw[hρ]at hv;simp only[yBH,yAb,yBG,yBk]at hv;obtain⟨rfl,_,rfl⟩:=hv;rw[hg]at iE;simp only[yAb,Obj.cells.injEq]at iE;obtain⟨rfl,_,rfl⟩:=iE;exact .inr ⟨g,cap,cur,NS,hρ,hb1,h2,h3,r⟩
  .obtain⟨xs,hx⟩:=hs.own i e0 s m hi ho;exact⟨xs,DH hx (λg' hg'=>far i g' hi hii hg')⟩
 .intro i e0 sz ver ds hi ho;obtain⟨b',C,cur,e1,e2,e3,e4,e5,e6,e7,e8⟩:=hs.row i e0 sz ver ds hi ho;exact⟨b',C,cur,e1,by show w'.heap[b']?=_;rw[far i b' hi (hne i _ ho (λ_ _ _ e=>Dh)) Gr];exact e2,e3,e4,e5,e6,e7.mono nx,e8⟩
 .intro i es hi ho;obtain⟨b',ents,clock,e1,e2,e3,e4⟩:=hs.map i es hi ho;exact⟨b',ents,clock,e1,by show w'.heap[b']?=_;rw[far i b' hi (hne i _ ho (λ_ _ _ e=>Dh)) Gr];exact e2,e3.mono nx,e4.mono nx⟩
 .intro i hi hm;obtain⟨b',e1,e2⟩:=hs.mark i hi hm;exact⟨b',e1,by show w'.heap[b']?=_;rw[far i b' hi (hne i _ hm (λ_ _ _ e=>Dh)) Gr];exact e2⟩
 .intro i st fr ps asg bd hi hm;obtain⟨b',r,e1,e2,e3,e4,e5,e6,e7⟩:=hs.loop i st fr ps asg bd hi hm;exact⟨b',r,e1,by show w'.heap[b']?=_;rw[far i b' hi (hne i _ hm (λ_ _ _ e=>Dh)) Gr];exact e2,e3,e4,e5,e6.mono nx,e7⟩
 .intro i b hi hbi;show b<w'.heap.size
  rw[h0.2.2.2];exact hs.lt i b hi hbi
 .intro a ha;have:w'.heap.size<=a.block:=ha;rw[h0.2.2.2]at this;exact hs.fresh a this
end
def NR:List PD->Option (List UInt8)
 | []=>some []
 |.int .u8 n::r=>if 0<=n/\n<256 then(match NR r with|some l=>some (UInt8.ofNat n.toNat::l)|none=>none)else none
 |_=>none
theorem aF6:∀ {xs:Jq} {l:Jr},NR xs=some l->xs=l.map λb=>PD.int .u8 b.toNat
 | [],l,h=>by simp only[NR,yAb]at h;subst h;rfl
 |x::r,l,h=>by
  unfold NR at h;split at h
  .cases ‹_::_=[]›
  .rename_i n r' heq;simp only[yCv]at heq;obtain⟨rfl,rfl⟩:=heq;split at h
   .rename_i hn;split at h
    .rename_i l' hl;simp only[yAb]at h;subst h;rw[yAW,<-aF6 hl]
     congr 2
     have:(UInt8.ofNat n.toNat).toNat=n.toNat:=by
      simp only[UInt8.toNat_ofNat'];omega
     omega
    .cases h
   .cases h
  .cases h
end
def vI(n:Nat)(k:Nat)(cs:List PD):List PD:=if n=1 then cs.take k else sI n k cs
def bF(σ:List aA):Nat->PD->PD
 |0,p=>p
 |k+1,.agg cs=>.agg (cs.map (bF σ k))
 |k+1,.aH cs=>.aH (cs.map (bF σ k))
 |k+1,.slice n xs _=>.slice n (xs.map (bF σ k)) .any
 |k+1,.dU id off n sz=>match σ[id]? with
  |some (.box q)=>if off+n*sz<=q.cells.length then .slice sz (vI sz n ((q.cells.drop off).map (bF σ k))) .any else .dU id off n sz
  |_=>.dU id off n sz
 |k+1,.aO id ver off n sz=>match σ[id]? with
  |some (.row _ sz' fS cs)=>if fS=ver/\sz'=sz/\off+n*sz<=cs.length then .slice sz (vI sz n ((cs.drop off).map (bF σ k))) .any else .aO id ver off n sz
  |_=>.aO id ver off n sz
 |k+1,.iface t p=>.iface t (bF σ k p)
 |_+1,p=>p
theorem aDf(σ:List aA):∀(k:Nat) (p:PD),p.plain=true->(bF σ k p).plain=true
 |0,p,h=>h
 |k+1,p,h=>by
  cases p<;>simp only[bF]<;>first
   |rfl
   |exact h
   |(simp[PD.plain]at h;done)
   |(split
     .split<;>rfl
     .rfl)
theorem aKi(σ:List aA):∀(k:Nat) (p:PD) (j:Nat) (d:PD),(bF σ k p).cells[j]?=some d->∃k' d0,k'<=k/\p.cells[j]?=some d0/\d=bF σ k' d0
 |0,p,j,d,h=>⟨0,d,yAk _,h,rfl⟩
 |k+1,p,j,d,h=>by
  by_cases hty:∃t cs,p=.typed t cs
  .obtain⟨t,cs,rfl⟩:=hty;exact⟨0,d,yAF _,h,rfl⟩
  have hp:∀t cs,p≠.typed t cs:=λt cs e=>hty ⟨t,cs,e⟩
  by_cases ha:∃cs,p=.agg cs
  .obtain⟨cs,rfl⟩:=ha;simp only[bF,PD.cells,yAo]at h;cases hj:cs[j]? with
   |none=>rw[hj]at h;cases h
   |some d0=>
    rw[hj]at h;simp only[yAC,yAb]at h;exact⟨k,d0,Cj,by simpa [PD.cells]using hj,h.symm⟩
  .have hpl:p.plain=true\/∃vs,p=.aH vs:=by
    cases p<;>first|exact .inl rfl|exact .inr ⟨_,rfl⟩ | exact absurd ⟨_,rfl⟩ ha|exact absurd rfl (hp _ _)
   have h1:p.cells=[p]:=by
    rcases hpl with h | ⟨vs,rfl⟩
    .cases p<;>first|rfl|(simp[PD.plain]at h;done)
    .rfl
   have h2:(bF σ (k+1) p).cells=[bF σ (k+1) p]:=by
    rcases hpl with h | ⟨vs,rfl⟩
    .have:=aDf σ (k+1) p h
     generalize bF σ (k+1) p=q at *
     cases q<;>first|rfl|(simp[PD.plain]at this;done)
    .rfl
   rw[h2]at h;cases j with
   |zero=>
    simp only[yBj,yAb]at h;exact⟨k+1,p,yAk _,by rw[h1];rfl,h.symm⟩
   |succ j=>simp at h
theorem aDg(σ:List aA)(k:Nat)(p:PD):(bF σ k p).cells.length=p.cells.length:=by
 cases k with
 |zero=>rfl
 |succ k=>
  cases p<;>simp only[bF]<;>first
   |rfl
   |(simp[PD.cells];done)
   |(split
     .split<;>rfl
     .rfl)
theorem aDh(σ:List aA)(k:Nat):∀(xs:List PD) (j:Nat) (d:PD),((xs.map (bF σ k)).flatMap PD.cells)[j]?=some d->∃k' d0,k'<=k/\(xs.flatMap PD.cells)[j]?=some d0/\d=bF σ k' d0
 | [],j,d,h=>Ea
 |x::xs,j,d,h=>by
  simp only[yAW,yBw]at h ⊢;have hl:=aDg σ k x;rw[yDg]at h ⊢;rw[hl]at h;split at h
  .rename_i hj;rw[yAJ hj];exact aKi σ k x j d h
  .rename_i hj;rw[yAI hj];exact aDh σ k xs _ d h
theorem aKj{n k:Nat}{cs:Jq}(h:k*n<=cs.length):(vI n k cs).length=k:=by
 unfold vI;split
 .rename_i h1;subst h1;simp;omega
 .exact BL n k cs
theorem aDi:∀ {cs:Jq},(∀d∈cs,d.plain=true)->cs.flatMap PD.cells=cs
 | [],_=>rfl
 |x::xs,h=>by
  have hx:x.cells=[x]:=by
   have:=h x Ck;cases x<;>first|rfl|(simp[PD.plain]at this;done)
  rw[yBw,hx,aDi (λd hd=>h d (by simp[hd]))];rfl
theorem aKk{n k:Nat}{cs:Jq}(h:k*n<=cs.length)(hp:∀d∈cs,d.plain=true):(vI n k cs).flatMap PD.cells=cs.take (k*n):=by
 unfold vI;split
 .rename_i h1;subst h1;rw[aDi (λd hd=>hp d (yAy hd)),yDh]
 .exact LD n k cs h
theorem aKl{n k:Nat}{cs:Jq}(h:k*n<=cs.length)(hp:∀d∈cs,d.plain=true):∀x∈vI n k cs,x.cells.length=n:=by
 unfold vI;split
 .rename_i h1;subst h1;intro x hx;have:=hp x (yAy hx);cases x<;>first|rfl|(simp[PD.plain]at this;done)
 .exact PW n k cs h
theorem aKm{c:Cx}{cs:Js}{ds:Jq}(h:aY c cs ds)(h1:∀v∈cs,v.oneCell'=true):∀d∈ds,d.plain=true:=by
 intro d hd;obtain⟨i,hi⟩:=yDj hd;have hlt:i<cs.length:=by rw[h.1];exact(yA.1 hi).1
 have:=(h.2 i cs[i] d Ik hi).plain;rw[this];exact h1 _ (yAm hlt)
theorem F4{xs:Jq}(h:PD.fW xs=true){d:PD}(hd:d∈xs):d.bY=true:=by
 rw[PD.tO]at h;exact yAn.1 h d hd
theorem aDj{x:PD}(h:x.bY=true){d:PD}(hd:d∈x.cells):d.bY=true:=by
 cases x with
 |agg cs=>simp only[PD.bY]at h;exact F4 h hd
 |typed t cs=>simp only[PD.bY]at h;exact F4 h hd
 |_=>simp only[PD.cells,yCn]at hd;rw[hd];exact h
theorem aDk{c1 c2:Cx}(hs:Sr c1)(hw:c2.w=c1.w)(hav:∀a,c1.av a->c2.av a)(hnew:∀id b,c1.D id->bE (c1.ρ id)=some b->∀j,c2.av ⟨b,j,none⟩) :
  ∀(k:Nat) (v:Value) (p:PD),VR c1 v p->(bF c1.σ k p).bY=true->VR c2 v (bF c1.σ k p):=by
 have up:∀a v,c1.av a->c1.w.cell? a=some v->c2.av a/\c2.w.cell? a=some v:=λa v h1 h2=>⟨hav a h1,by rw[hw];exact h2⟩
 have row:∀(b off n cap sz C:Nat) (cells:List Value) (ds:List PD) (T:TypeId) (cur:Array Value) (k:Nat),(∀k'≤k,∀v p,VR c1 v p->(bF c1.σ k' p).bY=true->VR c2 v (bF c1.σ k' p))->c1.w.heap[b]?=some (.cells cur T (0,0))->(∀j,c2.av ⟨b,j,none⟩) ->
   (∀(j:Nat) (v:Value),cells[j]?=some v->cur.toList[j]?=some v)->aY c1 cells ds->(∀v∈cells,v.oneCell'=true)->off+n*sz<=ds.length->n<=cap->cap<=maxLen ->
   (PD.slice sz (vI sz n ((ds.drop off).map (bF c1.σ k))) .any).bY=true->VR c2 (.slice (some ⟨b,off,none⟩) n cap) (.slice sz (vI sz n ((ds.drop off).map (bF c1.σ k))) .any):=by
  intro b off n cap sz C cells ds T cur k ih hb hbv hc hv h1 hle hn hm hf;have hpd:=aKm hv h1;have hpl:∀d∈(ds.drop off).map (bF c1.σ k),d.plain=true:=λd hd=>by
   obtain⟨d0,UO,rfl⟩:=yAw.1 hd;exact aDf _ _ _ (hpd d0 (yBd UO))
  have hlen:n*sz<=((ds.drop off).map (bF c1.σ k)).length:=Cu;have hcl:cells.length=ds.length:=hv.1;have hfl:=aKk hlen hpl;refine .slice (some ⟨b,off,none⟩) n cap sz _ .any ((cells.drop off).take (n*sz)) (aKj hlen).symm hn hm (aKl hlen hpl) (by rw[yAt,yBa];omega) (λv sH=>h1 v (yBd (yAy sH))) ?_ ?_ trivial
  .intro j v hj;refine⟨_,rfl,?_,?_⟩
   .rw[tY,hw];simp only[World.cell?,hb];rw[yAv]at hj;split at hj
    .rw[yBi]at hj;simpa using hc _ v hj
    .cases hj
   .rw[tY];exact hbv _
  .intro j v d hj hd;rw[hfl,yAv]at hd;rw[yAv]at hj;split at hj
   .rename_i hjn;rw[yAJ hjn,yAo]at hd;rw[yBi]at hj;cases h0:(ds.drop off)[j]? with
    |none=>rw[h0]at hd;cases hd
    |some d0=>
     rw[h0]at hd;simp only[yAC,yAb]at hd;subst hd;rw[yBi]at h0;refine ih k (yAk _) v d0 (hv.2 _ v d0 hj h0) ?_;have hmem:bF c1.σ k d0∈(vI sz n ((ds.drop off).map (bF c1.σ k))).flatMap PD.cells:=by
      rw[hfl];refine yAE (i:=j) ?_;rw[yAv,yAJ hjn,yAo,yBi,h0];rfl
     obtain⟨x,hx,hxd⟩:=yCS.1 hmem;simp only[PD.bY,yAr]at hf;exact aDj (F4 hf.1 hx) hxd
   .cases hj
 intro k
 induction k using Nat.strongRecOn with
 |_ k ih=>
  intro v p hv hf;cases k with
  |zero=>exact hv.free up hf
  |succ k=>
   cases hv with
   |bool b=>exact .bool b
   |int kk n=>exact .int kk n
   |str s=>exact .str s
   |iL=>exact .iL
   |jR=>exact .jR
   |gP v h=>exact .gP v h
   |agg cs ds hl h1 h2=>
    simp only[bF]at hf ⊢;simp only[PD.bY]at hf;refine .agg cs _ Fa h1 (λi u d hu hd=>?_);exact jc
   |aH cs ds hl h2=>
    simp only[bF]at hf ⊢;simp only[PD.bY]at hf;refine .aH cs _ Fa (λi u d hu hd=>?_);exact jc
   |iface t u q hq=>
    simp only[bF]at hf ⊢;simp only[PD.bY]at hf;exact .iface t u _ (ih k Cj u q hq hf)
   |slice A n cap size xs tok fl hn hc hm hx hfl h1 hcell h2 ht=>
    simp only[bF]at hf ⊢;simp only[PD.bY,yAr]at hf;refine .slice A n cap size _ .any fl Gp hc hm ?_ hfl h1 (λj u hj=>?_) (λj u d hj hd=>?_) trivial
    .intro y hy;obtain⟨x,hxm,rfl⟩:=yAw.1 hy;rw[aDg];exact hx x hxm
    .obtain⟨ad,e,g1,g2⟩:=hcell j u hj;obtain⟨q1,q2⟩:=up _ _ g2 g1;exact⟨ad,e,q2,q1⟩
    .obtain⟨k',d0,hk,h0,rfl⟩:=aDh c1.σ k xs j d hd;refine ih k' Cj u _ (h2 j u d0 hj h0) ?_;obtain⟨y,hy,hyd⟩:=yCS.1 (yAE hd);exact aDj (F4 hf.1 hy) hyd
   |ptr id off b hd hq hr=>simp[bF,PD.bY]at hf
   |dG id ver off b hp=>simp[bF,PD.bY]at hf
   |gC id b hd hn hr=>simp[bF,PD.bY]at hf
   |yield id l hd hn hr=>simp[bF,PD.bY]at hf
   |fK ad fl ds off hl h1 hcl h2=>
    simp only[bF]at hf ⊢;exact(VR.fK ad fl ds off hl h1 hcl h2).free up hf
   |func f cs ds hl h2=>
    simp only[bF]at hf ⊢;exact(VR.func f cs ds hl h2).free up hf
   |kZ f cs ds hl h2=>
    simp only[bF]at hf ⊢;exact(VR.kZ f cs ds hl h2).free up hf
   |dU id off n cap size b hd hq hr h1 h2=>
    simp only[bF]at hf ⊢;split at hf
    .rename_i q hqq;split at hf
     .rename_i hle;rw[yAJ hle];obtain⟨b',cur,T,e1,e2,e3,e4⟩:=hs.box id q hd hqq;rw[hr]at e1;simp only[yCK,yAb,yBG,yBk]at e1;subst e1;exact row b off n cap size 0 cur.toList q.cells T cur k (λk' hk=>ih k' Cj) e2 (hnew id b hd Ej) (λj v h=>h) e3 e4.1 hle h1 h2 hf
     .simp[PD.bY]at hf
    .simp[PD.bY]at hf
   |aO id ver off n cap size b hp h1 h2=>
    simp only[bF]at hf ⊢;split at hf
    .rename_i e sz' fS cs hqq;split at hf
     .rename_i hle;rw[yAJ hle];obtain⟨rfl,rfl,hle⟩:=hle;obtain⟨_,C,hr,_⟩:=(hp.2 _ _ _ cs hqq).2 rfl;obtain⟨b',C',cur,e1,e2,e3,e4,e5,e6,e7,e8⟩:=hs.row id e _ _ cs hp.1 hqq;rw[hr]at e1;simp only[yBH,yAb,yBG,yBk,yCe]at e1;obtain⟨rfl,rfl⟩:=e1;exact row b off n cap sz' 0 (cur.toList.take cs.length) cs e cur k (λk' hk=>ih k' Cj) e2 (hnew id b hp.1 Ej) (λj v h=>by
       rw[yAv]at h;split at h
       .exact h
       .cases h) e7 (λv sH=>e8 v (yAy sH)) hle h1 h2 hf
     .simp[PD.bY]at hf
    .simp[PD.bY]at hf
theorem aF.aC2{P:Program}{E:aE}(hE:aF P E)(hP:P.follows .mixedOrders=true){f:FuncId}{g:List PD->Option PD}
  (h:∀args p,g args=some p->∃N k p1 σ1,fA P E N 0 (.inl f) (args.map PD.strip) []=some (p1,σ1)/\(bF σ1 k p1).strip=p/\(bF σ1 k p1).bY=true/\PD.fW (args.map PD.strip)=true) :
  aF P (E.add f (λ_ args σ=>match g args with|some p=>some (p,σ)|none=>none)):=by
 intro F fl f' g' args c vs p σ' hF hg hgo hs hX hv;unfold aE.add at hg;split at hg
 .rename_i e;subst e;simp only[yAb]at hg;subst hg;cases hga:g args with
  |none=>simp only[hga]at hgo;cases hgo
  |some q=>
   simp only[hga,yAb,yAc]at hgo;obtain⟨rfl,rfl⟩:=hgo;obtain⟨N,k,p1,σ1,hN,e1,e3,e2⟩:=h args q hga;have jL:aY c.bare vs (args.map PD.strip):=hv.strip.free (λa v h1 h2=>⟨(UK a).2 h1,h2⟩) e2;have:=(C5 hE hP hF N).fn (c:=c.bare) hN hs.bare (λ_ _ h=>h.elim) jL;refine⟨this.1,λm=>yCE (this.2 m) λe w' he=>?_⟩;cases e with
   |returned v=>
    obtain⟨c1,rfl,rfl,hs1,nx,hvv,_⟩:=he;have hgr:c.w.grownBy c1.w none:=⟨nx.os,nx.tape,nx.output,nx.size,λk hk _=>nx.frame k hk (λ_ h=>h.elim)⟩;have hsc:=hs.grow hgr;refine⟨c.at c1.w,rfl,rfl,hsc,Nx.grow hs hgr,?_,λ_ h=>.inl h⟩;have hav:∀a,c1.av a->(c.at c1.w).av a:=λa h1=>by
     have h3:c1.X a:=h1.1;rw[nx.X]at h3;exact h3
    have hnew:∀id b,c1.D id->bE (c1.ρ id)=some b->∀j,(c.at c1.w).av ⟨b,j,none⟩:=λid b hd hb j=>by
     have hge:c.w.heap.size<=b:=by
      rcases yCj b c.w.heap.size with hlt|hge
      .exact(nx.back id b hd hb hlt).1.elim
      .exact hge
     refine⟨hs.fresh _ hge,λi o hi ho=>?_⟩;have key:∀b',bE (c.ρ i)=some b'->b≠b':=λb' hb' e=>by
      have:=hs.lt i b' hi hb';omega
     cases o with
     |none=>trivial
     |box p=>exact key
     |own e size n=>intro b' hb' e;exact absurd e (key b' hb')
     |row e size ver ds=>exact key
     |map es=>trivial
     |mark=>trivial
     |loop st fr ps asg bd=>trivial
    have:=(aDk hs1 (c2:=c.at c1.w) rfl hav hnew k v p1 hvv e3).strip;rw[e1]at this;exact this
   |panicked ch=>exact he.elim
   |outgrown=>exact he.elim
 .exact je
theorem aF.WA{P:Program}{E:aE}(hE:aF P E)(hP:P.follows .mixedOrders=true){f:FuncId}{g:List PD->Option PD}
  (h:∀args p,g args=some p->∃k p1 σ1,nQ P E 0 (.inl f) (args.map PD.strip) [] p1 σ1/\(bF σ1 k p1).strip=p/\(bF σ1 k p1).bY=true/\PD.fW (args.map PD.strip)=true) :
  aF P (E.add f (λ_ args σ=>match g args with|some p=>some (p,σ)|none=>none)):=
 hE.aC2 hP λargs p hg=>by
  obtain⟨k,p1,σ1,⟨N,hN⟩,r⟩:=h args p hg;exact⟨N,k,p1,σ1,hN N (yAk _),r⟩
def RunT(P:Program)(E:aE)(f:FuncId)(args:List PD)(p:PD):Prop:=∃k p1 σ1,nQ P E 0 (.inl f) args [] p1 σ1/\(bF σ1 k p1).strip=p/\(bF σ1 k p1).bY=true
theorem aF.aDl{P:Program}{E:aE}{f:FuncId}{α β:Type}(hE:aF P E)(hP:P.follows .mixedOrders=true){a:Em α}{r:Em β}{F:α->Option β}(h:∀x z,F x=some z->RunT P E f [a.aB x] (r.aB z)):aF P (E.add f (entry (cK a r F))):=by
 refine hE.WA hP λargs p hg=>?_
 match args,hg with
 | [q],hg=>
   simp only[cK]at hg;split at hg
   .rename_i x hx;split at hg
    .rename_i z hz;simp only[yAb]at hg;subst hg;obtain⟨k,p1,σ1,e1,e2,e3⟩:=h x z hz;have:=Em.oD hx;exact⟨k,p1,σ1,by simpa [this]using e1,e2,e3,by simp[this,PD.fW,a.eO]⟩
    .cases hg
   .cases hg
theorem aF.aDm{P:Program}{E:aE}{f:FuncId}{α β γ:Type}(hE:aF P E)(hP:P.follows .mixedOrders=true){a:Em α}{b:Em β}{r:Em γ}{F:α->β->Option γ}(h:∀x y z,F x y=some z->RunT P E f [a.aB x,b.aB y] (r.aB z)) :
  aF P (E.add f (entry (eM a b r F))):=by
 refine hE.WA hP λargs p hg=>?_
 match args,hg with
 | [q,s],hg=>
   simp only[eM]at hg;split at hg
   .rename_i x y hx hy;split at hg
    .rename_i z hz;simp only[yAb]at hg;subst hg;obtain⟨k,p1,σ1,e1,e2,e3⟩:=h x y z hz;have h1:=Em.oD hx;have h2:=Em.oD hy;exact⟨k,p1,σ1,by simpa [h1,h2]using e1,e2,e3,by simp[h1,h2,PD.fW,a.eO,b.eO]⟩
    .cases hg
   .cases hg
end Go.Kz
namespace Go.Kz
open Go Go.Proofs
@[simp] theorem Tryz.K7:cM prog 3=some 1:=Cl
@[simp] theorem Tryz.pz3:fP prog 3=some (.int .i64 0):=Cl
@[simp] theorem Tryz.pe3:lL prog 3=some (1,8):=Cl
@[simp] theorem Tryz.ps4:cM prog 4=some 1:=Cl
@[simp] theorem Tryz.ps5:cM prog 5=some 1:=Cl
@[simp] theorem Tryz.pz5:fP prog 5=some (.int .u8 0):=Cl
@[simp] theorem Tryz.ps9:cM prog 9=some 1:=Cl
@[simp] theorem Tryz.pz9:fP prog 9=some (.str []):=Cl
@[simp] theorem Tryz.aVA:cM prog 22=some 1:=Cl
@[simp] theorem Tryz.aVB:cM prog 23=some 1:=Cl
@[simp] theorem Tryz.aVC:cM prog 24=some 1:=Cl
@[simp] theorem Tryz.aVD:cM prog 26=some 3:=Cl
@[simp] theorem Tryz.aVE:cM prog 31=some 1:=Cl
@[simp] theorem Tryz.aVF:cM prog 32=some 1:=Cl
@[simp] theorem Tryz.aVG:cM prog 33=some 1:=Cl
@[simp] theorem Tryz.aVH:cM prog 35=some 4:=Cl
@[simp] theorem Tryz.aVI:fP prog 35=some (.agg [.str [],.slice 0 [] .full,.slice 0 [] .full,.slice 0 [] .full]):=Cl
@[simp] theorem Tryz.aVJ:cM prog 43=some 7:=Cl
@[simp] theorem Tryz.aVK:cM prog 45=some 2:=Cl
@[simp] theorem Tryz.aVL:fP prog 45=some (.agg [.int .i64 0,.int .i64 0]):=Cl
@[simp] theorem Tryz.aVM:cM prog 46=some 1:=Cl
@[simp] theorem Tryz.aVN:cM prog 48=some 6:=Cl
@[simp] theorem Tryz.aVO:fP prog 48=some (.agg [.str [],.str [],.int .i64 0,.int .i64 0,.int .i64 0,.slice 0 [] .full]):=Cl
@[simp] theorem Tryz.aVP:lL prog 48=some (6,80):=Cl
@[simp] theorem Tryz.aVQ:cM prog 50=some 2:=Cl
@[simp] theorem Tryz.aVR:fP prog 50=some (.agg [.int .i64 0,.int .i64 0]):=Cl
@[simp] theorem Tryz.aVS:cM prog 51=some 1:=Cl
@[simp] theorem Tryz.aVT:cM prog 53=some 5:=Cl
@[simp] theorem Tryz.aVU:fP prog 53=some (.agg [.str [],.bool false,.int .i64 0,.int .i64 0,.slice 0 [] .full]):=Cl
@[simp] theorem Tryz.aVV:cM prog 54=some 1:=Cl
@[simp] theorem Tryz.aVW:cM prog 56=some 4:=Cl
@[simp] theorem Tryz.aVX:fP prog 56=some (.agg [.str [],.int .i64 0,.int .i64 0,.slice 0 [] .full]):=Cl
@[simp] theorem Tryz.aVY:cM prog 58=some 5:=Cl
@[simp] theorem Tryz.aVZ:fP prog 58=some (.agg [.str [],.int .i64 0,.int .i64 0,.int .i64 0,.bool false]):=Cl
@[simp] theorem Tryz.aV0:cM prog 60=some 24:=Cl
@[simp] theorem Tryz.aV1:fP prog 60=some (.agg [.int .i64 0,.int .i64 0,.int .i64 0,.str [],.str [],.str [],.int .i64 0,.int .i64 0,.int .i64 0,.slice 0 [] .full,.str [],.bool false,.int .i64 0,.int .i64 0,.slice 0 [] .full,.str [],.int .i64 0,.int .i64 0,.slice 0 [] .full,.str [],.int .i64 0,.int .i64 0,.int .i64 0,.bool false]):=Cl
@[simp] theorem Tryz.aV2:lL prog 60=some (24,288):=Cl
@[simp] theorem Tryz.aV3:cM prog 72=some 2:=Cl
@[simp] theorem Tryz.aV4:fP prog 72=some (.agg [.int .i64 0,.int .i64 0]):=Cl
@[simp] theorem Tryz.aV5:cM prog 74=some 4:=Cl
@[simp] theorem Tryz.aV6:fP prog 74=some (.agg [.int .i64 0,.int .i64 0,.int .i64 0,.int .i64 0]):=Cl
@[simp] theorem Tryz.aV7:cM prog 89=some 2:=Cl
@[simp] theorem Tryz.aV8:fP prog 89=some (.agg [.int .i64 0,.int .i64 0]):=Cl
@[simp] theorem Tryz.aV9:cM prog 90=some 1:=Cl
@[simp] theorem Tryz.aWa:cM prog 92=some 3:=Cl
@[simp] theorem Tryz.aWb:fP prog 92=some (.agg [.int .i64 0,.int .i64 0,.slice 0 [] .full]):=Cl
@[simp] theorem Tryz.aWc:cM prog 93=some 1:=Cl
@[simp] theorem Tryz.aWd:cM prog 95=some 4:=Cl
@[simp] theorem Tryz.aWe:fP prog 95=some (.agg [.int .u8 0,.int .u8 0,.bool false,.slice 0 [] .full]):=Cl
@[simp] theorem Tryz.aWf:cM prog 100=some 1:=Cl
@[simp] theorem Tryz.aWg:cM prog 101=some 5:=Cl
@[simp] theorem Tryz.aWh:cM prog 103=some 9:=Cl
@[simp] theorem Tryz.aWi:cM prog 106=some 4:=Cl
@[simp] theorem Tryz.aWj:cM prog 108=some 4:=Cl
@[simp] theorem Tryz.aWk:fP prog 108=some (.agg [.int .u8 0,.int .u8 0,.int .i8 0,.bool false]):=Cl
@[simp] theorem Tryz.aWl:fP prog 126=some (.agg [.str [],.slice 0 [] .full,.slice 0 [] .full,.slice 0 [] .full,.str [],.slice 0 [] .full,.slice 0 [] .full,.slice 0 [] .full]):=Cl
@[simp] theorem Tryz.aWm:cM prog 175=some 3:=Cl
@[simp] theorem Tryz.aWn:fP prog 175=some (.agg [.slice 0 [] .full,.int .i64 0,.int .i64 0]):=Cl
@[simp] theorem Tryz.aWo:cM prog 226=some 1:=Cl
@[simp] theorem Tryz.aWp:fP prog 226=some (.int .u64 0):=Cl
@[simp] theorem Tryz.aWq:lL prog 226=some (1,8):=Cl
attribute [simp] underlying1 underlying2 underlying3 underlying4 underlying5 underlying6 underlying7 underlying8 underlying9 underlying10 underlying11 underlying12 underlying13 underlying14 underlying15 underlying16 underlying17 underlying18 underlying19 underlying20 underlying21 underlying22 underlying23 underlying24 underlying25 underlying26 underlying27 underlying28 underlying29 underlying30 underlying31 underlying32 underlying33 underlying34 underlying35 underlying36 underlying37 underlying38 underlying39 underlying40 underlying41 underlying42 underlying43 underlying44 underlying45 underlying46 underlying47 underlying48 underlying49 underlying50 underlying51 underlying52 underlying53 underlying54 underlying55 underlying56 underlying57 underlying58 underlying59 underlying60 underlying61 underlying62 underlying64 underlying66 underlying67 underlying68 underlying69 underlying71 underlying72 underlying73 underlying74 underlying75 underlying77 underlying78 underlying79 underlying80 underlying82 underlying83 underlying84 underlying85 underlying87 underlying88 underlying89 underlying90 underlying91 underlying92 underlying93 underlying94 underlying95 underlying96 underlying97 underlying98 underlying99 underlying100 underlying101 underlying102 underlying103 underlying104 underlying105 underlying106 underlying107 underlying108 underlying109 underlying110 underlying111 underlying112 underlying113 underlying115 underlying116 underlying117 underlying118 underlying119 underlying120 underlying121 underlying122 underlying123 underlying124 underlying125 underlying126 underlying127 underlying128 underlying129 underlying130 underlying131 underlying132 underlying133 underlying134 underlying135 underlying136 underlying137 underlying138 underlying139 underlying140 underlying141 underlying142 underlying143 underlying144 underlying145 underlying147 underlying148 underlying149 underlying150 underlying151 underlying152 underlying153 underlying154 underlying155 underlying157 underlying158 underlying159 underlying160 underlying161 underlying162 underlying163 underlying164 underlying165 underlying166 underlying167 underlying168 underlying169 underlying170 underlying171 underlying172 underlying173 underlying174 underlying175 underlying176 underlying177 underlying178 underlying179 underlying180 underlying181 underlying182 underlying183 underlying185 underlying186 underlying187 underlying188 underlying189 underlying190 underlying191 underlying192 underlying193 underlying194 underlying195 underlying196 underlying197 underlying198 underlying199 underlying200 underlying201 underlying202 underlying203 underlying204 underlying205 underlying206 underlying207 underlying208 underlying209 underlying210 underlying211 underlying212 underlying213 underlying215 underlying216 underlying217 underlying218 underlying219 underlying220 underlying221 underlying222 underlying223 underlying224 underlying225 underlying226 underlying227 underlying228 underlying229 underlying230 underlying231 underlying232 underlying233 underlying235 underlying236 underlying237 underlying238 underlying239 underlying240 underlying242 underlying243 underlying244 underlying245 underlying246 underlying247 underlying249 underlying250 underlying251 underlying252 underlying253 underlying254 underlying255 underlying256 underlying257 underlying258 underlying259 underlying260 underlying261 underlying262 underlying263 underlying264 underlying265 underlying266 underlying267 underlying268 underlying269 underlying270 underlying271 underlying273 underlying274 underlying275 underlying276 underlying278 underlying280 underlying281 underlying282 underlying283 underlying284 underlying285 underlying286 underlying287 underlying288 underlying289 underlying290 underlying291 underlying292
section
set_option maxRecDepth 10000
theorem Tryz.aDn:prog.eqGuardType prog.depth 45=false:=Cl
theorem Tryz.aDo:tL prog 12 45=some [.i .i64,.i .i64]:=Cl
theorem Tryz.aDp:gK prog 45=some true:=Cl
@[simp] theorem Tryz.aWr{a0 b0:Int}{a1 b1:Int}:eI prog .eql 45 (.agg [.int .i64 a0,.int .i64 a1]) (.agg [.int .i64 b0,.int .i64 b1])=some (.bool (decide (a0=b0)&&(decide (a1=b1)&&true))):=O2 Tryz.aDn Tryz.aDo Tryz.aDp rfl
@[simp] theorem Tryz.aWs{a0 b0:Int}{a1 b1:Int}:eI prog .neq 45 (.agg [.int .i64 a0,.int .i64 a1]) (.agg [.int .i64 b0,.int .i64 b1])=some (.bool (!(decide (a0=b0)&&(decide (a1=b1)&&true)))):=O3 Tryz.aDn Tryz.aDo Tryz.aDp rfl
theorem Tryz.aDq:prog.eqGuardType prog.depth 50=false:=Cl
theorem Tryz.aDr:tL prog 12 50=some [.i .i64,.i .i64]:=Cl
theorem Tryz.aDs:gK prog 50=some true:=Cl
@[simp] theorem Tryz.aWt{a0 b0:Int}{a1 b1:Int}:eI prog .eql 50 (.agg [.int .i64 a0,.int .i64 a1]) (.agg [.int .i64 b0,.int .i64 b1])=some (.bool (decide (a0=b0)&&(decide (a1=b1)&&true))):=O2 Tryz.aDq Tryz.aDr Tryz.aDs rfl
@[simp] theorem Tryz.aWu{a0 b0:Int}{a1 b1:Int}:eI prog .neq 50 (.agg [.int .i64 a0,.int .i64 a1]) (.agg [.int .i64 b0,.int .i64 b1])=some (.bool (!(decide (a0=b0)&&(decide (a1=b1)&&true)))):=O3 Tryz.aDq Tryz.aDr Tryz.aDs rfl
theorem Tryz.aDt:prog.eqGuardType prog.depth 58=false:=Cl
theorem Tryz.aDu:tL prog 12 58=some [.s,.i .i64,.i .i64,.i .i64,.b]:=Cl
theorem Tryz.aDv:gK prog 58=some true:=Cl
@[simp] theorem Tryz.aWv{a0 b0:Jr}{a1 b1:Int}{a2 b2:Int}{a3 b3:Int}{a4 b4:Bool}:eI prog .eql 58 (.agg [.str a0,.int .i64 a1,.int .i64 a2,.int .i64 a3,.bool a4]) (.agg [.str b0,.int .i64 b1,.int .i64 b2,.int .i64 b3,.bool b4])=some (.bool (decide (a0=b0)&&(decide (a1=b1)&&(decide (a2=b2)&&(decide (a3=b3)&&(decide (a4=b4)&&true)))))):=O2 Tryz.aDt Tryz.aDu Tryz.aDv rfl
@[simp] theorem Tryz.aWw{a0 b0:Jr}{a1 b1:Int}{a2 b2:Int}{a3 b3:Int}{a4 b4:Bool}:eI prog .neq 58 (.agg [.str a0,.int .i64 a1,.int .i64 a2,.int .i64 a3,.bool a4]) (.agg [.str b0,.int .i64 b1,.int .i64 b2,.int .i64 b3,.bool b4])=some (.bool (!(decide (a0=b0)&&(decide (a1=b1)&&(decide (a2=b2)&&(decide (a3=b3)&&(decide (a4=b4)&&true))))))):=O3 Tryz.aDt Tryz.aDu Tryz.aDv rfl
theorem Tryz.aDw:prog.eqGuardType prog.depth 89=false:=Cl
theorem Tryz.aDx:tL prog 12 89=some [.i .i64,.i .i64]:=Cl
theorem Tryz.aDy:gK prog 89=some true:=Cl
@[simp] theorem Tryz.aWx{a0 b0:Int}{a1 b1:Int}:eI prog .eql 89 (.agg [.int .i64 a0,.int .i64 a1]) (.agg [.int .i64 b0,.int .i64 b1])=some (.bool (decide (a0=b0)&&(decide (a1=b1)&&true))):=O2 Tryz.aDw Tryz.aDx Tryz.aDy rfl
@[simp] theorem Tryz.aWy{a0 b0:Int}{a1 b1:Int}:eI prog .neq 89 (.agg [.int .i64 a0,.int .i64 a1]) (.agg [.int .i64 b0,.int .i64 b1])=some (.bool (!(decide (a0=b0)&&(decide (a1=b1)&&true)))):=O3 Tryz.aDw Tryz.aDx Tryz.aDy rfl
end
def Cl0:aE:=λ_=>none
theorem aQV{P:Program}:aF P Cl0:=λ_ hg=>by cases hg
theorem bK:prog.follows .mixedOrders=true:=Cl
noncomputable def Cl1:aE:=Cl0.add 73 (uF prog 31 6)
theorem aQW:aF prog Cl1:=aQV.GY bK 31 6 48 rfl Cl Cl Cl Dy
noncomputable def Cl2:aE:=Cl1.add 74 (uF prog 32 5)
theorem aQX:aF prog Cl2:=aQW.GY bK 32 5 53 rfl Cl Cl Cl Dy
noncomputable def Cl3:aE:=Cl2.add 75 (uF prog 33 5)
theorem aQY:aF prog Cl3:=aQX.GY bK 33 5 58 rfl Cl Cl Cl Dy
noncomputable def Cl4:aE:=Cl3.add 109 (uF prog 46 1)
theorem aQZ:aF prog Cl4:=aQY.GY bK 46 1 3 rfl Cl Cl Cl Dy
noncomputable def Cl5:aE:=Cl4.add 110 (uF prog 51 4)
theorem aQ0:aF prog Cl5:=aQZ.GY bK 51 4 56 rfl Cl Cl Cl Dy
noncomputable def Cl6:aE:=Cl5.add 118 (uF prog 54 3)
theorem aQ1:aF prog Cl6:=aQ0.GY bK 54 3 92 rfl Cl Cl Cl Dy
noncomputable def Cl7:aE:=Cl6.add 119 (uF prog 90 2)
theorem aQ2:aF prog Cl7:=aQ1.GY bK 90 2 89 rfl Cl Cl Cl Dy
abbrev ClE:aE:=Cl7
theorem aDU:aF prog ClE:=aQ2
end Go.Kz
namespace Go.Kz
section
noncomputable section
section
variable{β:Type}
def dZ(n:Nat)(k:Nat->β):β:=match n with|0=>k 0|m+1=>k (m+1)
theorem F2(n:Nat)(k:Nat->β):dZ n k=k n:=by cases n<;>rfl
def QF(z:Int)(k:Int->β):β:=match z with|.ofNat n=>dZ n λn=>k (.ofNat n)|.negSucc n=>dZ n λn=>k (.negSucc n)
theorem aC3(z:Int)(k:Int->β):QF z k=k z:=by cases z<;>simp[QF,F2]
def II(b:UInt8)(k:UInt8->β):β:=dZ b.toNat λn=>k (UInt8.ofNat n)
theorem aC4(b:UInt8)(k:UInt8->β):II b k=k b:=by simp[II,F2]
def mW{α:Type}(f:α->(α->β)->β)(l:List α):(List α->β)->β:=
 List.rec (motive:=λ_=>(List α->β)->β) (λk=>k []) (λx _ ih k=>f x λx'=>ih λxs'=>k (x'::xs')) l
theorem DL{α:Type}{f:α->(α->β)->β}(hf:∀x k,f x k=k x):∀(l:List α) (k:List α->β),mW f l k=k l
 | [],_=>rfl
 |x::xs,k=>by
  show f x (λx'=>mW f xs λxs'=>k (x'::xs'))=_
  rw[hf,DL hf xs]
def QG(b:Bool)(k:Bool->β):β:=match b with|true=>k true|false=>k false
theorem VX(b:Bool)(k:Bool->β):QG b k=k b:=by cases b<;>rfl
def VY(x:IntKind)(k:IntKind->β):β:=match x with
 |.i8=>k .i8|.i16=>k .i16|.i32=>k .i32|.i64=>k .i64|.u8=>k .u8|.u16=>k .u16|.u32=>k .u32|.u64=>k .u64
theorem aC5(x:IntKind)(k:IntKind->β):VY x k=k x:=by cases x<;>rfl
def QH(t:Tok)(k:Tok->β):β:=match t with
 |.any=>k .any|.full=>k .full|.nil=>k .nil|.j7=>k .j7|.kY=>k .kY|.own id=>dZ id λid=>k (.own id)
theorem aC6(t:Tok)(k:Tok->β):QH t k=k t:=by cases t<;>simp[QH,F2]
def wQ:Nat->PD->(PD->β)->β
 |0,p,k=>k p
 |n+1,p,k=>match p with
  |.bool b=>QG b λb=>k (.bool b)
  |.int x z=>VY x λx=>QF z λz=>k (.int x z)
  |.str l=>mW II l λl=>k (.str l)
  |.agg cs=>mW (wQ n) cs λcs=>k (.agg cs)
  |.slice s xs t=>dZ s λs=>mW (wQ n) xs λxs=>QH t λt=>k (.slice s xs t)
  |.ptr id off=>dZ id λid=>dZ off λoff=>k (.ptr id off)
  |.fK cs off=>mW (wQ n) cs λcs=>dZ off λoff=>k (.fK cs off)
  |.iL=>k .iL
  |.func f cs=>dZ f λf=>mW (wQ n) cs λcs=>k (.func f cs)
  |.kZ f cs=>dZ f λf=>mW (wQ n) cs λcs=>k (.kZ f cs)
  |.yield id=>dZ id λid=>k (.yield id)
  |.jR=>k .jR
  |.gP v=>k (.gP v)
  |.typed t cs=>dZ t λt=>mW (wQ n) cs λcs=>k (.typed t cs)
  |.dU id off m sz=>dZ id λid=>dZ off λoff=>dZ m λm=>dZ sz λsz=>k (.dU id off m sz)
  |.aO id v off m sz=>dZ id λid=>dZ v λv=>dZ off λoff=>dZ m λm=>dZ sz λsz=>k (.aO id v off m sz)
  |.dG id v off=>dZ id λid=>dZ v λv=>dZ off λoff=>k (.dG id v off)
  |.gC id=>dZ id λid=>k (.gC id)
  |.iface t q=>dZ t λt=>wQ n q λq=>k (.iface t q)
  |.aH vs=>mW (wQ n) vs λvs=>k (.aH vs)
theorem VZ:∀(n:Nat) (p:PD) (k:PD->β),wQ n p k=k p
 |0,_,_=>rfl
 |n+1,p,k=>by
  have h:∀(l:List PD) (k:List PD->β),mW (wQ n) l k=k l:=DL (VZ n)
  have hb:∀(l:List UInt8) (k:List UInt8->β),mW II l k=k l:=DL aC4
  cases p<;>simp[wQ,F2,aC3,VX,aC5,aC6,h,hb,VZ n]
def DM{α:Type}(l:List α)(k:List α->β):β:=mW (λx k=>k x) l k
theorem QI{α:Type}(l:List α)(k:List α->β):DM l k=k l:=DL (λ_ _=>rfl) l k
def V0(p:PD)(k:PD->β):β:=match p with
 |.agg cs=>DM cs λcs=>k (.agg cs)
 |.typed t cs=>DM cs λcs=>k (.typed t cs)
 |p=>k p
theorem aJ9(p:PD)(k:PD->β):V0 p k=k p:=by cases p<;>simp[V0,QI]
def LU(o:aA)(k:aA->β):β:=match o with
 |.none=>k .none
 |.box p=>V0 p λp=>k (.box p)
 |.own e s n=>dZ e λe=>dZ s λs=>dZ n λn=>k (.own e s n)
 |.row e s v cs=>dZ e λe=>dZ s λs=>dZ v λv=>DM cs λcs=>k (.row e s v cs)
 |.map es=>DM es λes=>k (.map es)
 |.mark=>k .mark
 |.loop st fr ps a b=>DM fr λfr=>k (.loop st fr ps a b)
theorem aC7(o:aA)(k:aA->β):LU o k=k o:=by cases o<;>simp[LU,aJ9,F2,QI]
def xN(σ:List aA)(k:List aA->β):β:=mW LU σ k
theorem IJ(σ:List aA)(k:List aA->β):xN σ k=k σ:=DL aC7 σ k
def LV(p:PD)(k:PD->β):β:=match p with
 |.bool b=>QG b λb=>k (.bool b)
 |.int x z=>k (.int x z)
 |.str l=>k (.str l)
 |.agg cs=>k (.agg cs)
 |.slice s xs t=>k (.slice s xs t)
 |.ptr id off=>k (.ptr id off)
 |.fK cs off=>k (.fK cs off)
 |.iL=>k .iL
 |.func f cs=>k (.func f cs)
 |.kZ f cs=>k (.kZ f cs)
 |.yield id=>k (.yield id)
 |.jR=>k .jR
 |.gP v=>k (.gP v)
 |.typed t cs=>k (.typed t cs)
 |.dU id off m sz=>k (.dU id off m sz)
 |.aO id v off m sz=>k (.aO id v off m sz)
 |.dG id v off=>k (.dG id v off)
 |.gC id=>k (.gC id)
 |.iface t q=>k (.iface t q)
 |.aH vs=>k (.aH vs)
theorem V1(p:PD)(k:PD->β):LV p k=k p:=by cases p<;>simp[LV,VX]
def xO:Nat->PD->(PD->β)->β
 |0,p,k=>LV p k
 |n+1,p,k=>match p with
  |.bool b=>QG b λb=>k (.bool b)
  |.int x z=>VY x λx=>QF z λz=>k (.int x z)
  |.str l=>mW II l λl=>k (.str l)
  |.agg cs=>mW (xO n) cs λcs=>k (.agg cs)
  |.slice s xs t=>dZ s λs=>mW (xO n) xs λxs=>QH t λt=>k (.slice s xs t)
  |.ptr id off=>dZ id λid=>dZ off λoff=>k (.ptr id off)
  |.fK cs off=>DM cs λcs=>dZ off λoff=>k (.fK cs off)
  |.func f cs=>dZ f λf=>mW (xO n) cs λcs=>k (.func f cs)
  |.kZ f cs=>dZ f λf=>mW (xO n) cs λcs=>k (.kZ f cs)
  |.dU id off m sz=>dZ id λid=>dZ off λoff=>dZ m λm=>dZ sz λsz=>k (.dU id off m sz)
  |.aO id v off m sz=>dZ id λid=>dZ v λv=>dZ off λoff=>dZ m λm=>dZ sz λsz=>k (.aO id v off m sz)
  |.dG id v off=>dZ id λid=>dZ v λv=>dZ off λoff=>k (.dG id v off)
  |.gC id=>dZ id λid=>k (.gC id)
  |.iface t q=>dZ t λt=>xO n q λq=>k (.iface t q)
  |.aH vs=>mW (xO n) vs λvs=>k (.aH vs)
  |p=>k p
theorem QJ:∀(n:Nat) (p:PD) (k:PD->β),xO n p k=k p
 |0,p,k=>V1 p k
 |n+1,p,k=>by
  have h:∀(l:List PD) (k:List PD->β),mW (xO n) l k=k l:=DL (QJ n)
  have hb:∀(l:List UInt8) (k:List UInt8->β),mW II l k=k l:=DL aC4
  cases p<;>simp[xO,F2,aC3,VX,aC5,aC6,h,hb,QJ n,QI]
def DN(l:List aA)(n:Nat):(List aA->β)->β:=
 List.rec (motive:=λ_=>Nat->(List aA->β)->β) (λ_ k=>k []) (λx r ih n k=>Nat.rec (motive:=λ_=>β) (LU x λx=>k (x::r)) (λn _=>ih n λr=>k (x::r)) n) l n
theorem aC8:∀(l:List aA) (n:Nat) (k:List aA->β),DN l n k=k l
 | [],_,_=>rfl
 |x::r,0,k=>by
  show LU x (λx=>k (x::r))=_
  rw[aC7]
 |x::r,n+1,k=>by
  show DN r n (λr=>k (x::r))=_
  rw[aC8 r]
def handed(p:PD):Option Nat:=match p with
 |.ptr id _=>some id
 |.dG id _ _=>some id
 |.dU id _ _ _=>some id
 |.aO id _ _ _ _=>some id
 |.gC id=>some id
 |.slice _ _ (.own id)=>some id
 |_=>none
def QK(fr:List PD)(σ:List aA)(op:Op)(p:PD)(σ':List aA)(k:List aA->β):β:=match op with
 |.load _ _=>k σ'
 |.lookup _ _ _ _=>k σ'
 |.buildSlice _ _ _=>k σ'
 |.store _ x _=>(match bD fr x with|some a=>(match handed a with|some id=>DN σ' id k|none=>xN σ' k)|none=>xN σ' k)
 |.alloc _=>DN σ' σ.length k
 |.box _ _=>DN σ' σ.length k
 |.mapUpdate _ x _ _=>(match bD fr x with|some a=>(match handed a with|some id=>DN σ' id k|none=>xN σ' k)|none=>xN σ' k)
 |.makeMap _ _=>DN σ' σ.length k
 |.call { callee:=.builtin .append,.. }=>(match handed p with|some id=>DN σ' id k|none=>k σ')
 |_=>xN σ' k
theorem aC9(fr:List PD)(σ:List aA)(op:Op)(p:PD)(σ':List aA)(k:List aA->β):QK fr σ op p σ' k=k σ':=by
 unfold QK;split<;>(try split)<;>(try split)<;>simp[aC8,IJ]
def V2(l:List PD)(n:Nat)(p:PD):(List PD->β)->β:=
 List.rec (motive:=λ_=>Nat->(List PD->β)->β) (λ_ k=>k []) (λx r ih n k=>Nat.rec (motive:=λ_=>β) (k (p::r)) (λn _=>ih n λr=>k (x::r)) n) l n
theorem aDa:∀(l:List PD) (n:Nat) (p:PD) (k:List PD->β),V2 l n p k=k (l.set n p)
 | [],_,_,_=>rfl
 |_::_,0,_,_=>rfl
 |x::r,n+1,p,k=>by
  show V2 r n p (λr=>k (x::r))=_
  rw[aDa r];rfl
def wR(fr:List PD)(dst:Option Tmp)(p:PD)(k:List PD->β):β:=match dst with
 |some d=>V2 fr d p k
 |none=>k fr
theorem IK(fr:List PD)(dst:Option Tmp)(p:PD)(k:List PD->β):wR fr dst p k=k (bC fr dst p):=by cases dst<;>simp[wR,bC,aDa]
def LW(r:Option (PD×List aA))(k:PD->List aA->β)(d:β):β:=match r with
 |some (p,σ)=>wQ 30 p λp=>xN σ λσ=>k p σ
 |none=>d
theorem aKa(r:Option (PD×List aA))(k:PD->List aA->β)(d:β):LW r k d=match r with|some (p,σ)=>k p σ|none=>d:=by
 cases r with
 |none=>rfl
 |some x=>obtain⟨p,σ⟩:=x;simp[LW,VZ,IJ]
end
variable{P:Program}{E:aE}
def aKb:Op->Bool
 |.move _|.assign _|.pick _ _ _|.extract _ _|.load _ _=>true
 |_=>false
def IL{β:Type}(op:Op)(p:PD)(k:PD->β):β:=if aKb op then LV p k else xO 3 p k
theorem QL{β:Type}(op:Op)(p:PD)(k:PD->β):IL op p k=k p:=by unfold IL;split<;>simp[V1,QJ]
def IM{β:Type}(P:Program)(call:cY)(fl:Nat)(fr:List PD)(σ:List aA)(op:Op)(k:PD->List aA->β)(d:β):β:=
 match iU fr op with
 |some (tg,args)=>mW LV args λargs=>(match call fl tg args σ with
  |some (p,σ)=>k p σ
  |none=>d)
 |none=>match eP P fr op with
  |some p=>IL op p λp=>k p σ
  |none=>match dE P fl fr σ op with
   |some (p,σ')=>IL op p λp=>QK fr σ op p σ' λσ'=>k p σ'
   |none=>d
theorem V3{β:Type}(call:cY)(fl:Nat)(fr:List PD)(σ:List aA)(op:Op)(k:PD->List aA->β)(d:β):IM P call fl fr σ op k d=match cZ P call fl fr σ op with|some (p,σ)=>k p σ|none=>d:=by
 unfold IM cZ;cases iU fr op with
 |some x=>obtain⟨tg,args⟩:=x;simp only[DL V1]
 |none=>
  simp only[pop];cases eP P fr op with
  |some p=>simp[QL]
  |none=>
   exact ur
def QM(P:Program)(call:cY)(fl:Nat)(ops:Array Oper)(l:List Oper):List PD->List aA->Option (List PD×List aA):=
 List.rec (motive:=λ_=>List PD->List aA->Option (List PD×List aA)) (λfr σ=>some (fr,σ))
  (λo _ ih fr σ=>if Region.wanted o (cH ops fr)then IM P call fl fr σ o.op (λp σ'=>wR fr o.dst p λfr=>ih fr σ') none
   else wR fr o.dst (.aH []) λfr=>ih fr σ) l
theorem V4(call:cY)(fl:Nat)(ops:Array Oper):∀(l:List Oper) (fr:List PD) (σ:List aA),QM P call fl ops l fr σ=fI P call fl ops l fr σ
 | [],_,_=>rfl
 |o::rest,fr,σ=>by
  show(if Region.wanted o (cH ops fr)then IM P call fl fr σ o.op (λp σ'=>wR fr o.dst p λfr=>QM P call fl ops rest fr σ') none
   else wR fr o.dst (.aH []) λfr=>QM P call fl ops rest fr σ)=_
  unfold fI;split
  .rw[V3];cases cZ P call fl fr σ o.op with
   |none=>rfl
   |some x=>obtain⟨p,σ'⟩:=x;simp only[IK,V4 call fl ops rest]
  .simp only[IK,V4 call fl ops rest]
def LX(P:Program)(call:cY)(fl:Nat)(ops:Array Oper)(fr:List PD)(σ:List aA):Option (List PD×List aA):=
 match QM P call fl ops ops.toList fr σ with
 |some x=>some x
 |none=>PU P call fl ops ops.toList fr σ
theorem aKc(call:cY)(fl:Nat)(ops:Array Oper)(fr:List PD)(σ:List aA):LX P call fl ops fr σ=DA P call fl ops fr σ:=by
 unfold LX DA;rw[V4];rfl
def LY{β:Type}(P:Program)(call:cY)(fl:Nat)(free:Bool)(i:Nat)(fr:List PD)(σ:List aA)(op:Op)(k:PD->List aA->β)(d:β):β:=
 if fB op then(match eP P fr op with|some p=>IL op p λp=>k p σ|none=>d)
 else if dA op then dZ i λi=>k (.ptr i 0) σ
 else if dR op&&!free then IM P call (max fl σ.length) fr σ op (λp σ'=>xN (σ++σ'.drop σ.length) λσ'=>k p σ') d
 else if dR op then IM P call fl fr σ op k d
 else match dE P fl fr σ op with
  |some (p,σ')=>IL op p λp=>QK fr σ op p σ' λσ'=>k p σ'
  |none=>d
theorem aDb{β:Type}(call:cY)(fl:Nat)(free:Bool)(i:Nat)(fr:List PD)(σ:List aA)(op:Op)(k:PD->List aA->β)(d:β):LY P call fl free i fr σ op k d=match iA P call fl free i fr σ op with|some (p,σ)=>k p σ|none=>d:=by
 unfold LY iA;split
 .cases eP P fr op<;>simp[QL]
 .split
  .simp[F2]
  .split
   .rw[V3];cases cZ P call (max fl σ.length) fr σ op with
    |none=>rfl
    |some x=>obtain⟨p,σ'⟩:=x;simp[IJ]
   .split
    .rw[V3]
    .exact ur
def IN(P:Program)(call:cY)(fl:Nat)(ops:Array Oper)(ms:List Nat):Nat->Nat->List Oper->List PD->List aA->List (Option Nat)->Option (List (Option Nat)×Jq×List aA)
 |_,_,[],fr,σ,ft=>some (ft.reverse,fr,σ)
 |i,k,o::rest,fr,σ,ft=>
  if Region.wanted o (cH ops fr)then
   LY P call fl (kT ops.toList ms i) k fr σ o.op (λp σ'=>wR fr o.dst p λfr'=>IN P call fl ops ms (i+1) (if dA o.op then k+1 else k) rest fr' σ' (kX fr o.op::ft)) none
  else wR fr o.dst (.aH []) λfr'=>IN P call fl ops ms (i+1) (if dA o.op then k+1 else k) rest fr' σ (none::ft)
theorem V5(call:cY)(fl:Nat)(ops:Array Oper)(ms:List Nat):∀(l:List Oper) (i k:Nat) (fr:List PD) (σ:List aA) (ft:List (Option Nat)),
  IN P call fl ops ms i k l fr σ ft=match fE P call fl ops ms i k l fr σ with|some (tr,fr',σ')=>some (ft.reverse++tr.map TE.jV,fr',σ')|none=>none
 | [],i,k,fr,σ,ft=>by simp[IN,fE]
 |o::rest,i,k,fr,σ,ft=>by
  unfold IN fE;simp only;split
  .rw[aDb];cases iA P call fl (kT ops.toList ms i) k fr σ o.op with
   |none=>rfl
   |some x=>
    obtain⟨p,σ'⟩:=x;simp only[IK,V5 call fl ops ms rest];cases fE P call fl ops ms (i+1) (if dA o.op=true then k+1 else k) rest (bC fr o.dst p) σ' with
    |none=>rfl
    |some y=>obtain⟨tr,fr',BK⟩:=y;simp
  .simp only[IK,V5 call fl ops ms rest];cases fE P call fl ops ms (i+1) (if dA o.op=true then k+1 else k) rest (bC fr o.dst (.aH [])) σ with
   |none=>rfl
   |some y=>obtain⟨tr,fr',BK⟩:=y;simp
def V6(ops:List Oper)(ms:List Nat)(ft:List (Option Nat)):Bool:=
 (List.range ops.length).all λk=>!eR fX ops k||(List.range ops.length).all λi=>!eR eJ ops i||!loose ms i k ||
  match (ft[i]?).bind id,(ft[k]?).bind id with
  |some a,some b=>a != b
  |_,_=>true
theorem aKd(ops:List Oper)(ms:List Nat)(tr:List TE):V6 ops ms (tr.map TE.jV)=pI ops ms tr:=by
 have h:∀i,((tr.map TE.jV)[i]?).bind id=(tr[i]?).bind TE.jV:=λi=>by
  rw[yAo];cases tr[i]?<;>rfl
 unfold V6 pI;simp only[h];rfl
def V7(ops:Array Oper):List (Oper×Bool):=ops.toList.zipIdx.map λx=>(x.1,kT ops.toList (cP ops.toList []) x.2)
def calm(ops:Array Oper):Bool:=wI ops (cP ops.toList [])&&(List.range ops.toList.length).all λk=>!eR fX ops.toList k||(List.range ops.toList.length).all λi=>!eR eJ ops.toList i||!loose (cP ops.toList []) i k
def F3(P:Program)(call:cY)(fl:Nat)(ops:Array Oper)(l:List (Oper×Bool)):Nat->List PD->List aA->Option (List PD×List aA):=
 List.rec (motive:=λ_=>Nat->List PD->List aA->Option (List PD×List aA)) (λ_ fr σ=>some (fr,σ))
  (λo _ ih k fr σ=>if Region.wanted o.1 (cH ops fr)then LY P call fl o.2 k fr σ o.1.op (λp σ'=>wR fr o.1.dst p λfr'=>ih (if dA o.1.op then k+1 else k) fr' σ') none
   else wR fr o.1.dst (.aH []) λfr'=>ih (if dA o.1.op then k+1 else k) fr' σ) l
theorem V8(call:cY)(fl:Nat)(ops:Array Oper)(ms:List Nat):∀(l:List Oper) (i k:Nat) (fr:List PD) (σ:List aA),
  F3 P call fl ops ((l.zipIdx i).map λx=>(x.1,kT ops.toList ms x.2)) k fr σ=match fE P call fl ops ms i k l fr σ with|some (_,fr',σ')=>some (fr',σ')|none=>none
 | [],i,k,fr,σ=>rfl
 |o::rest,i,k,fr,σ=>by
  show(if Region.wanted o (cH ops fr)then LY P call fl (kT ops.toList ms i) k fr σ o.op (λp σ'=>wR fr o.dst p λfr'=>F3 P call fl ops ((rest.zipIdx (i+1)).map λx=>(x.1,kT ops.toList ms x.2)) (if dA o.op then k+1 else k) fr' σ') none
   else wR fr o.dst (.aH []) λfr'=>F3 P call fl ops ((rest.zipIdx (i+1)).map λx=>(x.1,kT ops.toList ms x.2)) (if dA o.op then k+1 else k) fr' σ)=_
  unfold fE;simp only;split
  .rw[aDb];cases iA P call fl (kT ops.toList ms i) k fr σ o.op with
   |none=>rfl
   |some x=>
    obtain⟨p,σ'⟩:=x;simp only[IK,V8 call fl ops ms rest];cases fE P call fl ops ms (i+1) (if dA o.op=true then k+1 else k) rest (bC fr o.dst p) σ' with
    |none=>rfl
    |some y=>rfl
  .simp only[IK,V8 call fl ops ms rest];cases fE P call fl ops ms (i+1) (if dA o.op=true then k+1 else k) rest (bC fr o.dst (.aH [])) σ with
   |none=>rfl
   |some y=>rfl
theorem aKe{ops:Ju}(h:calm ops=true)(tr:List TE):wI ops (cP ops.toList [])=true/\pI ops.toList (cP ops.toList []) tr=true:=by
 simp only[calm,yAr]at h;refine⟨h.1,?_⟩;have h2:=h.2;simp only[pI,yAn,yAS,yBu]at h2 ⊢;intro k hk;rcases h2 k hk with h3|h3
 .exact .inl h3
 .refine .inr λi hi=>.inl ?_
  rcases h3 i hi with h4|h4
  .exact .inl h4
  .exact .inr h4
def LZ(P:Program)(call:cY)(fl:Nat)(ops:Array Oper)(fr:List PD)(σ:List aA):Option (List PD×List aA):=
 if calm ops then
  match mT P ops.toList with
  |some []=>(match F3 P call fl ops (V7 ops) σ.length fr σ with
   |some x=>some x
   |none=>mU P call fl ops fr σ)
  |some (h::hs)=>xN (σ++h::hs) λσ1=>(match F3 P call fl ops (V7 ops) σ.length fr σ1 with
   |some x=>some x
   |none=>mU P call fl ops fr σ)
  |none=>mU P call fl ops fr σ
 else if wI ops (cP ops.toList [])then
  match mT P ops.toList with
  |some hs=>xN (σ++hs) λσ1=>(match IN P call fl ops (cP ops.toList []) 0 σ.length ops.toList fr σ1 []with
   |some (ft,fr',σ')=>if V6 ops.toList (cP ops.toList []) ft then some (fr',σ')else mU P call fl ops fr σ
   |none=>mU P call fl ops fr σ)
  |none=>mU P call fl ops fr σ
 else mU P call fl ops fr σ
theorem aDc(call:cY)(fl:Nat)(ops:Array Oper)(fr:List PD)(σ hs:List aA)(hc:calm ops=true)(hh:mT P ops.toList=some hs) :
  (match F3 P call fl ops (V7 ops) σ.length fr (σ++hs)with
   |some x=>some x
   |none=>mU P call fl ops fr σ)=mU P call fl ops fr σ:=by
 have he:=V8 (P:=P) call fl ops (cP ops.toList []) ops.toList 0 σ.length fr (σ++hs);show(match F3 P call fl ops (ops.toList.zipIdx.map λx=>(x.1,kT ops.toList (cP ops.toList []) x.2)) σ.length fr (σ++hs)with|some x=>some x|none=>_)=_
 rw[he];cases hd:fE P call fl ops (cP ops.toList []) 0 σ.length ops.toList fr (σ++hs)with
 |none=>rfl
 |some y=>
  obtain⟨tr,fr',σ'⟩:=y;obtain⟨hr,hf⟩:=aKe hc tr;exact qj
theorem aKf(call:cY)(fl:Nat)(ops:Array Oper)(fr:List PD)(σ:List aA):LZ P call fl ops fr σ=mU P call fl ops fr σ:=by
 unfold LZ;split
 .rename_i hc;split
  .rename_i hh;have:=aDc (P:=P) call fl ops fr σ [] hc hh;rw[yAl]at this;exact this
  .rename_i h hs hh;rw[IJ];exact aDc call fl ops fr σ (h::hs) hc hh
  .rfl
 .split
  .rename_i hr;split
   .rename_i hs hh;rw[IJ,V5];cases hd:fE P call fl ops (cP ops.toList []) 0 σ.length ops.toList fr (σ++hs)with
    |none=>rfl
    |some y=>
     obtain⟨tr,fr',σ'⟩:=y;simp only[List.reverse_nil,yAV,aKd];split
     .rename_i hf;exact qj
     .rfl
   .rfl
  .rfl
def V9(P:Program)(code:uZ)(fl:Nat)(f:FuncId)(args:List PD)(σ:List aA):Option (PD×List aA):=
 match P.funcs[f]? with
 |some fn=>match fn.body with
  |some c=>DM (args++List.replicate (fn.ntmps-args.length) (.aH [])) λfr=>(match code none c fl fr [] σ with
   |some r=>(match bQ P fl fn r with
    |some (p,σ)=>xO 1 p λp=>(match r.ms with
     | []=>some (p,σ)
     |_=>xN σ λσ=>some (p,σ))
    |none=>none)
   |none=>none)
  |none=>none
 |none=>none
theorem aKg(code:uZ)(fl:Nat)(f:FuncId)(args:List PD)(σ:List aA):V9 P code fl f args σ=FI P code fl f args σ:=by
 unfold V9 FI;cases P.funcs[f]? with
 |none=>rfl
 |some fn=>
  simp only;cases fn.body with
  |none=>rfl
  |some c=>
   simp only[QI];cases code none c fl (args++List.replicate (fn.ntmps-args.length) (.aH [])) [] σ with
   |none=>rfl
   |some r=>
    simp only;cases bQ P fl fn r with
    |none=>rfl
    |some x=>
     obtain⟨p,σ⟩:=x;simp only[QJ];split<;>simp[IJ]
def BR(P:Program)(E:aE)(code:uZ):cY
 |fl,.inl f,args,σ=>match E f with
  |some g=>LW (g fl args σ) (λp σ=>some (p,σ)) none
  |none=>V9 P code fl f args σ
 |fl,.inr id,args,σ=>LW (K6 code fl id args σ) (λp σ=>some (p,σ)) none
theorem aDd(code:uZ):BR P E code=tN P E code:=by
 have h:∀r:Option (PD×List aA),LW r (λp σ=>some (p,σ)) none=r:=λr=>by
  rw[aKa];cases r with
  |none=>rfl
  |some x=>rfl
 funext fl tg args σ
 cases tg with
 |inl f=>
  simp only[BR,tN];cases E f with
  |none=>exact aKg code fl f args σ
  |some g=>exact h _
 |inr id=>exact h (K6 code fl id args σ)
def vH(P:Program)(E:aE)(n:Nat):uZ:=
 Nat.rec (motive:=λ_=>uZ) (λ_ _ _ _ _ _=>none) (λ_ self rd c fl fr ms σ=>
  match c with
  |.skip=>some ⟨.normal,fr,ms,σ⟩
  |.region _ ops false=>match LX P (BR P E self) fl ops fr σ with
    |some (fr',σ')=>some ⟨.normal,fr',ms,σ'⟩
    |none=>none
  |.region _ ops true=>match LZ P (BR P E self) fl ops fr σ with
    |some (fr',σ')=>some ⟨.normal,fr',ms,σ'⟩
    |none=>none
  |.seq x y=>match self rd x fl fr ms σ with
    |some ⟨.normal,fr',ms',σ'⟩=>self rd y fl fr' ms' σ'
    |r=>r
  |.cond g x y=>match bD fr g with
    |some (.bool true)=>self rd x fl fr ms σ
    |some (.bool false)=>self rd y fl fr ms σ
    |_=>none
  |.block id b=>match self rd b fl fr ms σ with
    |some ⟨.exit k,fr',ms',σ'⟩=>some ⟨if k=id then .normal else .exit k,fr',ms',σ'⟩
    |r=>r
  |.loop b=>match self rd b fl fr ms σ with
    |some ⟨.normal,fr',ms',σ'⟩=>self rd (.loop b) fl fr' ms' σ'
    |r=>r
  |.rangeFunc g ps assign body=>match bD fr g with
    |some (.func gf cap)=>K4 (BR P E self) rd gf cap ps.toList assign body fl fr ms σ
    |_=>none
  |.exit id=>some ⟨.exit id,fr,ms,σ⟩
  |.ret=>some ⟨.ret,fr,ms,σ⟩
  |_=>none) n
theorem aKh(n:Nat):vH P E (n+1)=λrd c fl fr ms σ=>
  match c with
  |.skip=>some ⟨.normal,fr,ms,σ⟩
  |.region _ ops false=>match LX P (BR P E (vH P E n)) fl ops fr σ with
    |some (fr',σ')=>some ⟨.normal,fr',ms,σ'⟩
    |none=>none
  |.region _ ops true=>match LZ P (BR P E (vH P E n)) fl ops fr σ with
    |some (fr',σ')=>some ⟨.normal,fr',ms,σ'⟩
    |none=>none
  |.seq x y=>match vH P E n rd x fl fr ms σ with
    |some ⟨.normal,fr',ms',σ'⟩=>vH P E n rd y fl fr' ms' σ'
    |r=>r
  |.cond g x y=>match bD fr g with
    |some (.bool true)=>vH P E n rd x fl fr ms σ
    |some (.bool false)=>vH P E n rd y fl fr ms σ
    |_=>none
  |.block id b=>match vH P E n rd b fl fr ms σ with
    |some ⟨.exit k,fr',ms',σ'⟩=>some ⟨if k=id then .normal else .exit k,fr',ms',σ'⟩
    |r=>r
  |.loop b=>match vH P E n rd b fl fr ms σ with
    |some ⟨.normal,fr',ms',σ'⟩=>vH P E n rd (.loop b) fl fr' ms' σ'
    |r=>r
  |.rangeFunc g ps assign body=>match bD fr g with
    |some (.func gf cap)=>K4 (BR P E (vH P E n)) rd gf cap ps.toList assign body fl fr ms σ
    |_=>none
  |.exit id=>some ⟨.exit id,fr,ms,σ⟩
  |.ret=>some ⟨.ret,fr,ms,σ⟩
  |_=>none:=rfl
theorem aDe:∀n,vH P E n=jU P E n
 |0=>rfl
 |n+1=>by
  funext rd c fl fr ms σ
  have h1:∀call fl ops fr σ,LX P call fl ops fr σ=DA P call fl ops fr σ:=aKc;have h2:∀call fl ops fr σ,LZ P call fl ops fr σ=mU P call fl ops fr σ:=aKf;rw[aKh];unfold jU;rw[aDe n,aDd];simp only[h1,h2];cases c with
  |region id ops d=>cases d<;>rfl
  |_=>rfl
def QD(P:Program)(E:aE)(n:Nat):cY:=BR P E (vH P E n)
theorem aC1(n:Nat):QD P E n=fA P E n:=by
 unfold QD fA;rw[aDe,aDd]
end
end
def vF{α:Type}(f:α->α->Bool):List α->List α->Bool
 | [],[]=>true
 |x::xs,y::ys=>f x y&&vF f xs ys
 |_,_=>false
theorem VV{α:Type}{f:α->α->Bool}(hf:∀x y,f x y=true->x=y):∀xs ys:List α,vF f xs ys=true->xs=ys
 | [],[],_=>rfl
 |x::xs,y::ys,h=>by
  simp only[vF,yAr]at h;rw[hf x y h.1,VV hf xs ys h.2]
 | [],_::_,h=>by simp[vF]at h
 |_::_,[],h=>by simp[vF]at h
def VW:Tok->Tok->Bool
 |.any,.any=>true
 |.full,.full=>true
 |.nil,.nil=>true
 |.j7,.j7=>true
 |.kY,.kY=>true
 |.own a,.own b=>a==b
 |_,_=>false
theorem aJ7(a b:Tok)(h:VW a b=true):a=b:=by
 cases a<;>cases b<;>simp[VW]at h<;>first|rfl|(rw[h])
def uA:Nat->PD->PD->Bool
 |0,_,_=>false
 |n+1,p,q=>match p,q with
  |.bool a,.bool b=>a==b
  |.int j a,.int k b=>(j==k)&&(a==b)
  |.str a,.str b=>a==b
  |.agg a,.agg b=>vF (uA n) a b
  |.slice s a t,.slice s' b t'=>(s==s')&&(VW t t'&&vF (uA n) a b)
  |.ptr i o,.ptr i' o'=>(i==i')&&(o==o')
  |.iL,.iL=>true
  |.func f a,.func g b=>(f==g)&&vF (uA n) a b
  |.kZ f a,.kZ g b=>(f==g)&&vF (uA n) a b
  |.jR,.jR=>true
  |.typed t a,.typed u b=>(t==u)&&vF (uA n) a b
  |.dU i o m s,.dU i' o' m' s'=>(i==i')&&((o==o')&&((m==m')&&(s==s')))
  |.aO i v o m s,.aO i' v' o' m' s'=>(i==i')&&((v==v')&&((o==o')&&((m==m')&&(s==s'))))
  |.dG i v o,.dG i' v' o'=>(i==i')&&((v==v')&&(o==o'))
  |.gC i,.gC i'=>i==i'
  |.iface t a,.iface u b=>(t==u)&&uA n a b
  |.aH a,.aH b=>vF (uA n) a b
  |.gP .nilIface,.gP .nilIface=>true
  |.gP (.map none),.gP (.map none)=>true
  |_,_=>false
theorem LR:∀(n:Nat) (p q:PD),uA n p q=true->p=q
 |0,_,_,h=>by simp[uA]at h
 |n+1,p,q,h=>by
  have hl:∀a b:List PD,vF (uA n) a b=true->a=b:=VV (LR n);unfold uA at h;split at h
  all_goals first
   |rfl
   |(cases h;done)
   |((try simp only[yAr,yCc]at h)
     first
      |(rw[h])
      |(obtain⟨rfl,rfl⟩:=h;rfl)
      |(rw[hl _ _ h])
      |(obtain⟨rfl,h2,h3⟩:=h;rw[hl _ _ h3,aJ7 _ _ h2])
      |(obtain⟨rfl,h2⟩:=h;rw[hl _ _ h2])
      |(obtain⟨rfl,rfl,rfl,rfl⟩:=h;rfl)
      |(obtain⟨rfl,rfl,rfl,rfl,rfl⟩:=h;rfl)
      |(obtain⟨rfl,rfl,rfl⟩:=h;rfl)
      |(obtain⟨rfl,h2⟩:=h;rw[LR n _ _ h2]))
structure aVz where
 a:Jq
 s:Jp
 p:PD
 s':Jp
theorem aF.aJ8{P:Program}{E:aE}(hE:aF P E)(hP:P.follows .mixedOrders=true){f:FuncId}{N:Nat}(h:(match QD P E N 0 (.inl f) [] []with|some (.bool true,_)=>true|_=>false)=true) :
  aF P (E.add f (entry (xI Em.bool (some true)))):=by
 rw[aC1]at h;split at h
 .rename_i σ1 hr;exact hE.aH0 hP hr
 .cases h
def sL:List (List PD×PD)->List PD->Option PD
 | [],_=>none
 |r::rs,args=>if vF (uA 40) (args.map PD.strip) r.1=true then some r.2 else sL rs args
theorem VU:∀ {rs:List (List PD×PD)} {args:Jq} {p:PD},sL rs args=some p->∃r∈rs,args.map PD.strip=r.1/\p=r.2
 | [],_,_,h=>Co
 |r::rs,args,p,h=>by
  unfold sL at h;split at h
  .rename_i hc;simp only[yAb]at h;exact⟨r,Ck,VV (LR 40) _ _ hc,h.symm⟩
  .obtain⟨r',hr,h'⟩:=VU h;exact⟨r',by simp[hr],h'⟩
def iT(P:Program)(E:aE)(N:Nat)(f:FuncId)(r:Jq×PD):Bool:=
 PD.fW r.1&&(match QD P E N 0 (.inl f) r.1 []with
  |some (p1,σ1)=>(bF σ1 20 p1).bY&&uA 40 (bF σ1 20 p1).strip r.2
  |none=>false)
theorem aF.QE{P:Program}{E:aE}(hE:aF P E)(hP:P.follows .mixedOrders=true){f:FuncId}{N:Nat}(rs:List (List PD×PD))(h:(rs.all (iT P E N f))=true) :
  aF P (E.add f (λ_ args σ=>match sL rs args with|some p=>some (p,σ)|none=>none)):=by
 refine hE.aC2 hP λargs p hg=>?_
 obtain⟨r,hr,ha,rfl⟩:=VU hg;have hx:=yAn.1 h r hr;simp only[iT,yAr]at hx;obtain⟨h1,h2⟩:=hx;split at h2
 .rename_i p1 σ1 hrun;simp only[yAr]at h2;rw[aC1]at hrun;exact⟨N,20,p1,σ1,by rw[ha];exact hrun,LR 40 _ _ h2.2,h2.1,by rw[ha];exact h1⟩
 .cases h2
section
theorem aI.unique{P:Program}{E:aE}{f:FuncId}{args:Jq}{p q:PD}(h:aI P E f args p)(k:aI P E f args q):p=q:=by
 obtain⟨p1,σ1,⟨N,hN⟩,rfl⟩:=h;obtain⟨q1,τ1,⟨M,hM⟩,rfl⟩:=k;have h1:=hN (max N M) (Nat.le_max_left _ _);have h2:=hM (max N M) (Nat.le_max_right _ _);rw[h1]at h2;simp only[yAb,yAc]at h2;rw[h2.1]
open Classical in
def IH(P:Program)(E:aE)(f:FuncId):List PD->Option PD:=λargs=>
 if h:∃p,(PD.fW (args.map PD.strip)=true/\p.bY=true)/\aI P E f (args.map PD.strip) p then some (Classical.choose h)else none
theorem aJ3{P:Program}{E:aE}{f:FuncId}{args:Jq}{p:PD}(h:aI P E f (args.map PD.strip) p)(hi:PD.fW (args.map PD.strip)=true)(hp:p.bY=true):IH P E f args=some p:=by
 unfold IH;have hx:∃p,(PD.fW (args.map PD.strip)=true/\p.bY=true)/\aI P E f (args.map PD.strip) p:=⟨p,⟨hi,hp⟩,h⟩;exact yc
theorem aJ4{P:Program}{E:aE}{f:FuncId}{args:Jq}{p:PD}(h:aI P E f (args.map PD.strip) p)(hi:PD.fW (args.map PD.strip)=true)(hp:p.bY=true)(fl:Nat)(σ:List aA):entry (IH P E f) fl args σ=some (p,σ):=by
 unfold entry;rw[aJ3 h hi hp]
theorem aF.aJ5{P:Program}{E:aE}(hE:aF P E)(hP:P.follows .mixedOrders=true)(f:FuncId):aF P (E.add f (entry (IH P E f))):=by
 refine hE.AV hP λargs p hg=>?_
 unfold IH at hg;split at hg
 .rename_i hx;simp only[yAb]at hg;obtain⟨h1,h2⟩:=Classical.choose_spec hx;rw[hg]at h1 h2;obtain⟨p1,σ1,h3,h4⟩:=h2;exact⟨p1,σ1,h3,h4,h1.1,h1.2⟩
 .cases hg
theorem aF.aJ6{P:Program}{E:aE}(hE:aF P E)(hP:P.follows .mixedOrders=true){f:FuncId}(rs:List (List PD×PD))(h:∀r∈rs,aI P E f r.1 r.2/\PD.fW r.1=true/\r.2.bY=true) :
  aF P (E.add f (λ_ args σ=>match sL rs args with|some p=>some (p,σ)|none=>none)):=by
 refine hE.AV hP λargs p hg=>?_
 obtain⟨r,hr,ha,rfl⟩:=VU hg;obtain⟨⟨p1,σ1,e1,e2⟩,h2,h3⟩:=h r hr;exact⟨p1,σ1,by rw[ha];exact e1,e2,by rw[ha];exact h2,h3⟩
end
theorem aF.pick{P:Program}{E E0:aE}(hE:aF P E)(h0:aF P E0){f:FuncId}{g}(h:E f=some g):aF P (E0.add f g):=by
 intro F fl f' g' args c vs p σ' hF hg hgo hs hX hv;unfold aE.add at hg;split at hg
 .rename_i e;subst e;simp only[yAb]at hg;subst hg;exact hE hF h hgo hs hX hv
 .exact h0 hF hg hgo hs hX hv
section
def Cx.held(c:Cx)(a:Addr):Prop:=∃id b,c.D id/\bE (c.ρ id)=some b/\a.block=b
def Cx.EI(c:Cx):Cx:={ w:=c.w,ρ:=λ_=>undef,σ:=[],D:=λ_=>False,X:=λa=>c.av a\/c.held a }
theorem aAH{c:Cx}(a:Addr):c.EI.av a↔(c.av a\/c.held a):=⟨λh=>h.1,λh=>⟨h,λ_ _ hd=>hd.elim⟩⟩
theorem Sr.EI{c:Cx}(hs:Sr c):Sr c.EI where
 box:=λ_ _ h=>h.elim
 own:=λ_ _ _ _ h=>h.elim
 row:=λ_ _ _ _ _ h=>h.elim
 map:=λ_ _ h=>h.elim
 mark:=λ_ h=>h.elim
 loop:=λ_ _ _ _ _ _ h=>h.elim
 inj:=λ_ _ _ h=>h.elim
 lt:=λ_ _ h=>h.elim
 bJ:=λ_ h=>h.elim
 fresh:=λ_ h=>.inl (aBM hs h)
 kG:=⟨λg ds e=>(hs.kG.1 g ds e).free (λa v h1 h2=>⟨(aAH a).2 (.inl h1),h2⟩) (by simpa [PD.bY]using aBN e),λg hh=>⟨(hs.kG.2 g hh).1,λ_ h=>h.elim⟩⟩
theorem aRq{c:Cx}(hs:Sr c){vs:Js}{ps:Jq}(k:Nat)(hv:aY c vs ps)(hf:PD.fW (ps.map (bF c.σ k))=true):aY c.EI vs (ps.map (bF c.σ k)):=by
 refine⟨by rw[yAe];exact hv.1,λi v q h1 h2=>?_⟩;rw[yAo]at h2;cases h0:ps[i]? with
 |none=>rw[h0]at h2;cases h2
 |some p=>
  rw[h0]at h2;simp only[yAC,yAb]at h2;subst h2;exact aDk (c2:=c.EI) hs rfl (λa h=>(aAH a).2 (.inl h)) (λid b hd hb j=>(aAH _).2 (.inr ⟨id,b,hd,hb,rfl⟩)) k v p (hv.2 i v p h1 h0) (F4 hf (yAw.2 ⟨p,yAE h0,rfl⟩))
def qB(g:List PD->Option PD):Nat->List PD->List aA->Option (PD×List aA):=λ_ args σ=>
 if PD.fW (args.map (bF σ 20))=true then(match g (args.map (bF σ 20))with|some p=>some (p,σ)|none=>none)else none
theorem aF.aRr{P:Program}{E:aE}(hE:aF P E)(hP:P.follows .mixedOrders=true){f:FuncId}{g:List PD->Option PD}
  (h:∀args p,g args=some p->aI P E f (args.map PD.strip) p/\p.flat=true):aF P (E.add f (qB g)):=by
 intro F fl f' g' args c vs p σ' hF hg hgo hs hX hv;unfold aE.add at hg;split at hg
 .rename_i e;subst e;simp only[yAb]at hg;subst hg;unfold qB at hgo;split at hgo
  .rename_i hid;split at hgo
   .rename_i q hga;simp only[yAb,yAc]at hgo;obtain⟨rfl,rfl⟩:=hgo;obtain⟨⟨p1,σ1,⟨N,hN⟩,e1⟩,e3⟩:=h _ q hga;have jL:aY c.EI vs ((args.map (bF c.σ 20)).map PD.strip):=(aRq hs 20 hv hid).strip;have:=(C5 hE hP hF N).fn (c:=c.EI) (hN N (yAk _)) hs.EI (λ_ _ h=>h.elim) jL;refine⟨this.1,λm=>yCE (this.2 m) λe w' he=>?_⟩;cases e with
    |returned v=>
     obtain⟨c1,rfl,rfl,hs1,nx,hvv,_⟩:=he;have hgr:c.w.grownBy c1.w none:=⟨nx.os,nx.tape,nx.output,nx.size,λk hk _=>nx.frame k hk (λ_ h=>h.elim)⟩;refine⟨c.at c1.w,rfl,rfl,hs.grow hgr,Nx.grow hs hgr,?_,λ_ h=>.inl h⟩;have hp:=hvv.strip;rw[e1]at hp;exact hp.flat e3
    |panicked ch=>exact he.elim
    |outgrown=>exact he.elim
   .cases hgo
  .cases hgo
 .exact je
open Classical in
def pM(P:Program)(E:aE)(f:FuncId):List PD->Option PD:=λargs=>
 if h:∃p,p.flat=true/\aI P E f (args.map PD.strip) p then some (Classical.choose h)else none
theorem aOl{P:Program}{E:aE}{f:FuncId}{args:Jq}{p:PD}(h:aI P E f (args.map PD.strip) p)(hp:p.flat=true):pM P E f args=some p:=by
 unfold pM;have hx:∃p,p.flat=true/\aI P E f (args.map PD.strip) p:=⟨p,hp,h⟩;exact yc
theorem aF.aDQ{P:Program}{E:aE}(hE:aF P E)(hP:P.follows .mixedOrders=true)(f:FuncId):aF P (E.add f (qB (pM P E f))):=by
 refine hE.aRr hP λargs p hg=>?_
 unfold pM at hg;split at hg
 .rename_i hx;simp only[yAb]at hg;obtain⟨h1,h2⟩:=Classical.choose_spec hx;rw[hg]at h1 h2;exact⟨h2,h1⟩
 .cases hg
end
section
theorem nQ.unique{P:Program}{E:aE}{fl:Nat}{f:FuncId ⊕ Nat}{args:Jq}{σ:Jp}{r q:PD×Jp}(h:nQ P E fl f args σ r.1 r.2)(k:nQ P E fl f args σ q.1 q.2):r=q:=by
 obtain⟨N,hN⟩:=h;obtain⟨M,hM⟩:=k;have h1:=hN (max N M) (Nat.le_max_left _ _);rw[hM (max N M) (Nat.le_max_right _ _)]at h1;simp only[yAb,yAc]at h1;exact yCF h1.1.symm h1.2.symm
open Classical in
def EG(P:Program)(E:aE)(f:FuncId):Nat->List PD->List aA->Option (PD×List aA):=λfl args σ=>
 if h:∃r:PD×List aA,nQ P E fl (.inl f) args σ r.1 r.2/\σ≠[]then some (Classical.choose h)else none
theorem aQ6{P:Program}{E:aE}{f:FuncId}{fl:Nat}{args:Jq}{σ σ':Jp}{p:PD}(h:nQ P E fl (.inl f) args σ p σ')(eQ:σ≠[]):EG P E f fl args σ=some (p,σ'):=by
 unfold EG;have hx:∃r:PD×List aA,nQ P E fl (.inl f) args σ r.1 r.2/\σ≠[]:=⟨(p,σ'),h,eQ⟩;rw[dif_pos hx];exact yAL some ((Classical.choose_spec hx).1.unique (q:=(p,σ')) h)
theorem aF.aQ7{P:Program}{E:aE}(hE:aF P E)(hP:P.follows .mixedOrders=true)(f:FuncId):aF P (E.add f (EG P E f)):=
 hE.add hP λfl args σ p σ' h=>by
  unfold EG at h;split at h
  .rename_i hx;simp only[yAb]at h;have h1:=(Classical.choose_spec hx).1;rw[h]at h1;exact h1
  .cases h
theorem aK.es{P:Program}{E:aE}{f:FuncId}{fl:Nat}{args:Jq}{σ:Jp}{R:PD->List aA->Prop}(h:aK P E fl (.inl f) args σ R)(eQ:σ≠[]):∃p σ',EG P E f fl args σ=some (p,σ')/\R p σ':=by
 obtain⟨p,σ',h1,h2⟩:=h.ex;exact⟨p,σ',aQ6 h1 eQ,h2⟩
theorem VR.resize{c:Cx}{v:Value}{k z:Nat}(h:VR c v (.slice k [] .full)):VR c v (.slice z [] .full):=by
 obtain⟨A,cap,fl,rfl,a1,a2,a3,a4,a5,a6,a7,a8⟩:=h.pK;have e:fl=[]:=yAf (by simpa using a4);subst e;exact .slice A _ cap z [] .full [] rfl a1 a2 (λx hx=>by simp at hx) Ck (λv hv=>by simp at hv) (λj v h=>Ea) (λj v d h=>Ea) a8
theorem aF.JG{P:Program}{E:aE}(hE:aF P E)(hP:P.follows .mixedOrders=true){f:FuncId}{g:Jk}
  (h:∀fl args σ p σ',g fl args σ=some (p,σ')->∀(c:Cx) (vs:List Value),c.σ=σ->aY c vs args->∃args1 p1,aY c vs args1/\nQ P E fl (.inl f) args1 σ p1 σ'/\∀c' v,VR c' v p1->VR c' v p):aF P (E.add f g):=by
 intro F fl f' g' args c vs p σ' hF hg hgo hs hX hv;unfold aE.add at hg;split at hg
 .rename_i e;subst e;simp only[yAb]at hg;subst hg;obtain⟨args1,p1,sK,⟨N,hN⟩,hp⟩:=h fl args c.σ p σ' hgo c vs rfl hv;have:=(C5 hE hP hF N).fn (hN N (yAk _)) hs hX sK;refine⟨this.1,λm=>yCE (this.2 m) λe w' he=>?_⟩;cases e with
  |returned v=>
   obtain⟨c1,e1,e2,hs1,nx,hvv,hfin⟩:=he;exact⟨c1,e1,e2,hs1,nx,hp _ _ hvv,hfin⟩
  |panicked ch=>exact he.elim
  |outgrown=>exact he.elim
 .exact je
end
section
open Go
def GZ(ops:Array Oper):Bool:=tI ops.toList [] λms=>
 (List.range ops.size).all λk=>!eR fX ops.toList k||(List.range ops.size).all λi=>!eR eJ ops.toList i||!loose ms i k
def JT(f:Nat)(ops:Array Oper):Bool:=tI ops.toList [] λms=>
 (List.range ops.size).any λk=>aAq (aAr f) ops.toList k&&!kT ops.toList ms k&&(List.range k).all λj=>!eR dR ops.toList j&&!eR fX ops.toList j
section
variable{P:Program}{E:aE}{fl:Nat}{ops:Ju}
theorem aAs{n f:Nat}{g:Jk}(hE:E f=some g)(hg:∀fl args σ,0<fl->g fl args σ=none){ms:List Nat}(hsh:∀o∈ops.toList,(fB o.op||eJ o.op||dA o.op||mS o.op||eS o.op)=true) :
  ∀(d i k:Nat) (l:List Oper) (fr:List PD) (σ:List aA) (o:Oper),ops.toList.drop i=l->σ≠[]->l[d]?=some o->aAr f o=true->kT ops.toList ms (i+d)=false->(∀j o',j<d->l[j]?=some o'->dR o'.op=false/\fX o'.op=false) ->
   fE P (fA P E n) fl ops ms i k l fr σ=none
 |0,i,k,l,fr,σ,o,hl,eQ,ho,hc,hn,_=>by
  cases l with
  |nil=>simp at ho
  |cons o' l=>
   simp only[yBj,yAb]at ho;subst ho;rw[yBm]at hn;simp only[aAr,yAr]at hc;obtain⟨hgd,hc⟩:=hc;obtain⟨dst,op,ty,pos,edges,guard⟩:=o';simp only at hc hgd;split at hc
   .rename_i g' args ts hop;simp only[yCb]at hc;subst hc;have hgn:guard=none:=by cases guard<;>simp_all
    subst hgn;have hp:cZ P (fA P E n) (max fl σ.length) fr σ (.call { callee:=.value (.func g'),args:=args,argTypes:=ts })=none:=by
     have hpos:0<max fl σ.length:=by
      have:0<σ.length:=yCo.2 eQ;omega
     unfold cZ;cases ha:lM fr args.toList with
     |none=>
      have:iU fr (.call { callee:=.value (.func g'),args:=args,argTypes:=ts })=none:=by simp[iU,bD,ha]
      rw[this];simp[pop,eP,dE]
     |some ps=>
      have:iU fr (.call { callee:=.value (.func g'),args:=args,argTypes:=ts })=some (.inl g',ps++[]):=by simp[iU,bD,ha]
      rw[this];simp only[fA,tN,hE,hg _ _ _ hpos]
    simp only[fE,Region.wanted,yAK,hn];unfold iA;simp only[fB,dA,dR,yAx,yAN,yCu,yCr,yAK,hp]
   .cases hc
 |d+1,i,k,l,fr,σ,o,hl,eQ,ho,hc,hn,hm=>by
  cases l with
  |nil=>simp at ho
  |cons o' l=>
   have hmem:o'∈ops.toList:=by
    have:o'∈ops.toList.drop i:=by rw[hl];simp
    exact yBd this
   have hs1:=hsh o' hmem;obtain⟨hm0,hs2⟩:=hm 0 o' Cj Ck;have hl':ops.toList.drop (i+1)=l:=by rw[<-yBD,hl];rfl
   have hrec:=λk fr=>aAs (n:=n) hE hg hsh d (i+1) k l fr σ o hl' eQ Fe hc (by rw[show i+1+d=i+(d+1) by omega];exact hn) (λj o'' hj h=>hm (j+1) o'' Cj Dl)
   simp only[fE];split
   .split
    .rename_i p σ1 hp;obtain rfl:=aCf hs1 (by unfold eS;rw[hs2,hm0];rfl) hp;rw[hrec]
    .rfl
   .rw[hrec]
theorem aGe{n f:Nat}{g:Jk}(hE:E f=some g)(hg:∀fl args σ,0<fl->g fl args σ=none){fr:Jq}{σ:Jp}(eQ:σ≠[]){x:Jq×Jp}(ρ:List (Nat×Nat))(B:List Nat){L:List (Option Nat)}(hs:(tZ ops&&G0 ops.toList&&GZ ops&&JT f ops)=true)
  (hρ:(eK.of ρ).ok fr) (hL:G1 ops.toList (eK.of ρ)=L) (hB:qG B L) (h:fI P (uN E B) fl ops ops.toList fr σ=some x):mU P (fA P E n) fl ops fr σ=some x:=by
 simp only[yAr,tZ]at hs;obtain⟨⟨⟨h1,h2⟩,h3⟩,h4⟩:=hs;rw[oU]at h1;have hr:=BE h1;obtain⟨tr,e1,e2⟩:=aAt (n:=n) ops.toList 0 σ.length fr σ x (λo ho=>by
  obtain⟨i,hi⟩:=yDj ho;exact hr.shape i o Ia) h2 h
 have hft:=SS _ _ _ _ _ _ _ _ _ e1 hρ;unfold mU;cases hd:nS P (fA P E n) fl ops fr σ with
 |some y=>
  exfalso
  unfold nS at hd;simp only[h1,yAK,aAu h2,yAl]at hd;rw[JT,oU]at h4;simp only[yCp,yAS,yAr,yBv,yAn]at h4;obtain⟨k,hk,⟨a1,a2⟩,a3⟩:=h4;have hno:fE P (fA P E n) fl ops (cP ops.toList []) 0 σ.length ops.toList fr σ=none:=by
   have hkl:k<ops.toList.length:=Im;refine aAs hE hg (λo ho=>?_) k 0 _ _ _ _ ops.toList[k] Ck eQ (yAh hkl) ?_ (by simpa using a2) ?_
   .exact yh
   .unfold aAq at a1;rw[yAh hkl]at a1;exact a1
   .intro j o' hj ho';obtain⟨this,that⟩:=a3 j hj;exact xx
  rw[hno]at hd;cases hd
 |none=>
  simp only[h1,yAK,aAu h2,yAl,e1];exact bt
theorem Wp.D1{rd:Option Nat}{ms:List Nat}{Q:PO->Prop}{id f:Nat}{g:Jk}{fr:Jq}{σ:Jp}(hE:E f=some g)(hg:∀fl args σ,0<fl->g fl args σ=none)(eQ:σ≠[])(ρ:List (Nat×Nat))(B:List Nat)(L:List (Option Nat))
  (hs:(tZ ops&&G0 ops.toList&&GZ ops&&JT f ops)=true) (hρ:eK.at fr ρ) (hL:G1 ops.toList (eK.of ρ)=L) (hB:qG B L) (h:SQ P (uN E B) fl ops ops.toList fr σ (λfr' σ'=>Q ⟨.normal,fr',ms,σ'⟩)) :
  Wp P E rd (.region id ops true) fl fr ms σ Q:=by
 obtain⟨fr',σ',h1,h2⟩:=h.ex;exact⟨_,.K1 (N:=0) (λn _=>aGe hE hg eQ ρ B hs (eK.aCY ρ hρ) hL hB h1),h2⟩
def eK.SU(fr:List PD):List (Nat×Nat)->Prop
 | []=>True
 |x::l=>(∃p,lk fr x.1=some p/\gQ p=some x.2)/\eK.SU fr l
theorem eK.aAw{fr:Jq}:∀(l:List (Nat×Nat)),eK.SU fr l->(eK.of l).ok fr
 | [],_=>λ_ _ _ h=>Co
 |x::l,⟨⟨p,h1,h3⟩,h2⟩=>λt id id' h h'=>by
  unfold eK.of at h
  by_cases e:x.1=t
  .rw[yAJ e]at h;simp only[yAb]at h;rw[O5,e]at h1;rw[yAA,h1]at h';simp only[yDq,h3,yAb]at h';rw[<-h',h]
  .rw[yAI e]at h;exact eK.aAw l h2 t id id' h h'
theorem Wp.aFd{rd:Option Nat}{ms:List Nat}{Q:PO->Prop}{id f:Nat}{g:Jk}{fr:Jq}{σ:Jp}(hE:E f=some g)(hg:∀fl args σ,0<fl->g fl args σ=none)(eQ:σ≠[])(ρ:List (Nat×Nat))(B:List Nat)(L:List (Option Nat))
  (hs:(tZ ops&&G0 ops.toList&&GZ ops&&JT f ops)=true) (hρ:eK.SU fr ρ) (hL:G1 ops.toList (eK.of ρ)=L) (hB:qG B L) (h:SQ P (uN E B) fl ops ops.toList fr σ (λfr' σ'=>Q ⟨.normal,fr',ms,σ'⟩)) :
  Wp P E rd (.region id ops true) fl fr ms σ Q:=by
 obtain⟨fr',σ',h1,h2⟩:=h.ex;exact⟨_,.K1 (N:=0) (λn _=>aGe hE hg eQ ρ B hs (eK.aAw ρ hρ) hL hB h1),h2⟩
end
def dI(P:Program)(E:aE)(f:FuncId):Nat->List PD->List aA->Option (PD×List aA):=λfl args σ=>if fl=0 then EG P E f 0 args σ else none
theorem DZ{P:Program}{E:aE}{f:FuncId}:∀fl args σ,0<fl->dI P E f fl args σ=none:=λfl args σ h=>by
 unfold dI;rw[yAI Cj]
theorem aK.e0{P:Program}{E:aE}{f:FuncId}{args:Jq}{σ:Jp}{R:PD->List aA->Prop}(h:aK P E 0 (.inl f) args σ R)(eQ:σ≠[]):∃p σ',dI P E f 0 args σ=some (p,σ')/\R p σ':=by
 obtain⟨p,σ',h1,h2⟩:=h.es eQ;exact⟨p,σ',by unfold dI;rw[yAJ rfl];exact h1,h2⟩
theorem aF.pL{P:Program}{E:aE}(hE:aF P E)(hP:P.follows .mixedOrders=true)(f:FuncId):aF P (E.add f (dI P E f)):=by
 intro F fl f' g' args c vs p σ' hF hg hgo hs hX hv;unfold aE.add at hg;split at hg
 .rename_i e;subst e;simp only[yAb]at hg;subst hg;unfold dI at hgo;split at hgo
  .rename_i e;subst e;exact(hE.aQ7 hP f') hF (show E.add f' (EG P E f') f'=_ from yAJ rfl) hgo hs hX hv
  .cases hgo
 .exact je
theorem aJ.e0{P:Program}{E E0:aE}(hU:aJ E){f:FuncId}:aJ (E.add f (dI P E0 f)):=hU.other λargs p h=>by
 unfold dI EG at h;rw[yAJ rfl,dif_neg (λhx=>hx.choose_spec.2 rfl)]at h;cases h
end
section
open Classical in
def D5(E:aE):cY:=λfl tg args σ=>match gU E fl tg args σ with
 |some (p,σ')=>if gU E (max fl σ.length) tg args σ=some (p,σ')/\σ'=σ++σ'.drop σ.length then some (p,σ')else none
 |none=>none
theorem MV{E:aE}{fl:Nat}{f:FuncId}{args:Jq}{σ τ:Jp}{p:PD}{g}(hE:E f=some g)(h:∀fl,g fl args σ=some (p,σ++τ)):D5 E fl (.inl f) args σ=some (p,σ++τ):=by
 have e:∀fl,gU E fl (.inl f) args σ=some (p,σ++τ):=λfl=>by simp only[gU,hE,h]
 unfold D5;simp only[e];rw[yAJ ⟨e _,Ck⟩]
theorem aGd{E:aE}{fl:Nat}{tg:FuncId ⊕ Nat}{args:Jq}{σ:Jp}{x:PD×Jp}(h:D5 E fl tg args σ=some x):gU E fl tg args σ=some x/\gU E (max fl σ.length) tg args σ=some x/\x.2=σ++x.2.drop σ.length:=by
 unfold D5 at h;split at h
 .rename_i p σ' e;split at h
  .rename_i hc;simp only[yAb]at h;subst h;exact⟨e,hc.1,hc.2⟩
  .cases h
 .cases h
section
variable{P:Program}{E:aE}{fl:Nat}{fr:Jq}{σ:Jp}
theorem aQ8{op:Op}{x:PD×Jp}(h:cZ P (D5 E) fl fr σ op=some x):cZ P (gU E) fl fr σ op=some x:=by
 unfold cZ at h ⊢;split at h
 .rename_i tg args hp;exact(aGd h).1
 .exact h
theorem SR{ops:Ju}:∀(l:List Oper) (i:Nat) (fr:List PD) (σ:List aA) (x:Jq×List aA),ops.toList.drop i=l->HH ops=true ->
  fI P (D5 E) fl ops l fr σ=some x->oT P (gU E) fl ops (flags ops i l) fr σ=some x
 | [],_,_,_,_,_,_,h=>h
 |o::l,i,fr,σ,x,hd,hm,h=>by
  have ho:ops.toList[i]?=some o:=by
   exact Ab
  have hd':ops.toList.drop (i+1)=l:=Ib;have hi:i<ops.size:=by
   have:=(yA.1 ho).1;exact cw
  have hown:KQ o.op=false\/yX ops i=true:=by
   exact og
  simp only[fI]at h;simp only[flags,oT];split at h
  .rename_i hw;rw[yAJ hw];split at h
   .rename_i p σ1 hp;cases hf:(!dR o.op||yX ops i)with
    |true=>
     simp only[aQ8 hp];exact SR l (i+1) _ _ _ hd' hm h
    |false=>
     simp only[yDW,Bool.not_eq_false']at hf;obtain⟨jC,nO⟩:=hf;rw[nO]at hown;have hop:KQ o.op=false:=by simpa using hown
     have key:cZ P (gU E) (max fl σ.length) fr σ o.op=some (p,σ1)/\σ1=σ++σ1.drop σ.length:=by
      unfold cZ at hp ⊢;split at hp
      .rename_i tg args hpc;obtain⟨_,k2,k3⟩:=aGd hp;exact⟨k2,k3⟩
      .rename_i hpc
       exfalso
       cases hq:o.op with
       |box t x=>rw[hq]at hop;cases hop
       |call c=>
        obtain⟨callee,args,ts⟩:=c;cases callee with
        |builtin b=>rw[hq]at hop jC;cases b<;>first|(cases hop;done)|(cases jC;done)
        |value f=>rw[hq]at hp;simp[pop,eP,dE]at hp
        |invoke r m=>rw[hq]at jC;cases jC
       |_=>rw[hq]at jC;cases jC
     simp only[key.1,<-key.2];exact SR l (i+1) _ _ _ hd' hm h
   .cases h
  .rename_i hw;rw[yAI hw];exact SR l (i+1) _ _ _ hd' hm h
theorem Wp.ZQ{rd:Option Nat}{ms:List Nat}{Q:PO->Prop}{ops:Ju}{id:Nat}(hs:(wG ops&&HH ops)=true)(h:SQ P (D5 E) fl ops ops.toList fr σ (λfr' σ'=>Q ⟨.normal,fr',ms,σ'⟩)):Wp P E rd (.region id ops true) fl fr ms σ Q:=by
 simp only[yAr,OY]at hs;obtain⟨fr',σ',h1,h2⟩:=h.ex;exact .draw hs.1 (SR ops.toList 0 fr σ _ rfl hs.2 h1) h2
end
end
section
open Go.RowKit
set_option linter.unusedSectionVars false
def Tok.sh(n:Nat):Tok->Tok
 |.own id=>.own (id+n)
 |t=>t
mutual
def PD.sh(n:Nat):PD->PD
 |.bool b=>.bool b
 |.int k z=>.int k z
 |.str s=>.str s
 |.agg cs=>.agg (PD.AK n cs)
 |.slice sz xs t=>.slice sz (PD.AK n xs) (t.sh n)
 |.ptr id off=>.ptr (id+n) off
 |.fK cs off=>.fK (PD.AK n cs) off
 |.iL=>.iL
 |.func f cap=>.func f (PD.AK n cap)
 |.kZ f xs=>.kZ f (PD.AK n xs)
 |.yield id=>.yield (id+n)
 |.jR=>.jR
 |.gP v=>.gP v
 |.typed t cs=>.typed t (PD.AK n cs)
 |.dU id off m sz=>.dU (id+n) off m sz
 |.aO id ver off m sz=>.aO (id+n) ver off m sz
 |.dG id ver off=>.dG (id+n) ver off
 |.gC id=>.gC (id+n)
 |.iface t p=>.iface t (PD.sh n p)
 |.aH vs=>.aH (PD.AK n vs)
def PD.AK(n:Nat):List PD->Jq
 | []=>[]
 |x::xs=>PD.sh n x::PD.AK n xs
end
def aA.sh(n:Nat):aA->aA
 |.none=>.none
 |.box p=>.box (p.sh n)
 |.own e s m=>.own e s m
 |.row e s v cs=>.row e s v (PD.AK n cs)
 |.map es=>.map (es.map λx=>(x.1.sh n,x.2.sh n))
 |.mark=>.mark
 |.loop st fr ps asg bd=>.loop st (PD.AK n fr) ps asg bd
structure Shv (n:Nat) (c1 c2:Cx):Prop where
 cell:∀a v,c1.av a->c1.w.cell? a=some v->c2.av a/\c2.w.cell? a=some v
 bJ:∀id,c1.D id->c2.D (id+n)
 rho:∀id,c1.D id->c2.ρ (id+n)=c1.ρ id
 obj:∀id,c2.σ[id+n]?=(c1.σ[id]?).map (aA.sh n)
section
variable{c c1:Cx}
variable(hs:Sr c)(hs1:Sr c1)(nx:Nx 0 c.bare c1)
include hs nx
include hs1
end
end
def CG(g1 g2:Nat->List PD->List aA->Option (PD×List aA)):Nat->List PD->List aA->Option (PD×List aA):=λfl args σ=>match g1 fl args σ with
 |some x=>some x
 |none=>g2 fl args σ
theorem aF.DU{P:Program}{E:aE}{f:FuncId}{g1 g2}(h1:aF P (E.add f g1))(h2:aF P (E.add f g2)):aF P (E.add f (CG g1 g2)):=by
 intro F fl f' g' args c vs p σ' hF hg hgo hs hX hv
 by_cases e:f'=f
 .have e0:∀g,(E.add f g) f'=some g:=λg=>by unfold aE.add;rw[yAJ e]
  rw[e0]at hg;simp only[yAb]at hg;subst hg;unfold CG at hgo;split at hgo
  .rename_i x hx;simp only[yAb]at hgo;subst hgo;exact h1 hF (e0 g1) hx hs hX hv
  .exact h2 hF (e0 g2) hgo hs hX hv
 .have e0:∀g g',(E.add f g) f'=(E.add f g') f':=λg g'=>by unfold aE.add;rw[yAI e,yAI e]
  rw[e0 _ g1]at hg;exact h1 hF hg hgo hs hX hv
theorem aJ.tail{E:aE}(hU:aJ E){f:FuncId}{g}(h:∀args p,g 0 args []=some (p,[])->∀fl σ,g fl args σ=some (p,σ)):aJ (E.add f g):=by
 intro f' g' args p hg ha fl σ;unfold aE.add at hg;split at hg
 .simp only[yAb]at hg;subst hg;exact h args p ha fl σ
 .exact hU f' g' args p hg ha fl σ
def xT(g:Nat->List PD->List aA->Option (PD×List aA)):Prop:=∀fl args σ p σ',g fl args σ=some (p,σ')->σ'≠[]
theorem xT.or{g1 g2}(h1:xT g1)(h2:xT g2):xT (CG g1 g2):=λfl args σ p σ' h=>by
 unfold CG at h;split at h
 .rename_i x hx;simp only[yAb]at h;subst h;exact h1 _ _ _ _ _ hx
 .exact h2 _ _ _ _ _ h
theorem aJ.aDV{E:aE}(hU:aJ E){f:FuncId}{g}(h:xT g):aJ (E.add f g):=hU.tail λ_ _ ha=>absurd rfl (h _ _ _ _ _ ha)
section
open Go Go.RowKit
theorem aDz{P:Program}{w:World}{nm:String}{d:DataW Unit}:∀ {laid:List (String×DataW Unit)} {ps:List MemPlace},DataW.LaidVars P w laid ps->(nm,d)∈laid ->
  ∃g t cs fuel p,P.globalNamed nm=some g/\(P.globals[g]?).map (·.type)=some t/\w.var? P nm=some cs/\DataW.trod (λ_=>()) P w 0 (λ_=>true) false fuel t cs.toList=some (d,p)
 | [],_,_,hm=>by cases hm
 |(n,d')::r,ps,h,hm=>by
  obtain⟨g,t,cs,fuel,p,q,h1,h2,h3,h4,h5,_⟩:=h;rcases yBn.1 hm with e|hm
  .simp only[yAc]at e;obtain⟨rfl,rfl⟩:=e;exact⟨g,t,cs,fuel,p,h1,h2,h3,h4⟩
  .exact aDz h5 hm
theorem T3{P:Program}{w:World}{laid:List (String×DataW Unit)}{ps:List MemPlace}{nm:String}{k:IntKind}{xs:List Int}{g n:Nat}{t e:TypeId}(h:DataW.LaidVars P w laid ps)
  (hm:(nm,(.agg (xs.map λx=>.lit (.int k x)):DataW Unit))∈laid)
  (hg:P.globalNamed nm=some g) (ht:(P.globals[g]?).map (·.type)=some t) (hu:P.underlying t=some (.array n e)) (he:P.underlying e=some (.int k)) (hc:P.cellsOf e=1) (hct:P.cellsOf t=n) :
  ∃T fz,w.heap[g]?=some (.cells ((xs.map (Value.int k)).toArray) T fz):=by
 obtain⟨g1,t1,BN,f1,p1,iE,PH,sK,rL⟩:=aDz h hm;obtain rfl:=yAR (hg.symm.trans iE);obtain rfl:=yAR (ht.symm.trans PH);obtain⟨ys,m1,rfl,hx1,hlen,hn,hel⟩:=DataW.trod_array hu rL;simp only[yAc,DataW.agg.injEq]at hx1;have hxl:xs.length=n:=by
  have:=yAL List.length hx1.1;simp only[yAe]at this;omega
 have key:∀(j:Nat) (x:Int),xs[j]?=some x->BN[j]?=some (Value.int k x):=by
  intro j x hj;have hjl:j<n:=by rw[<-hxl];exact(yA.1 hj).1
  have hy:ys[j]?=some ys[j]:=yAh Cj;have h1:=hel j hjl;rw[hy,hc,yDh]at h1;obtain⟨v,e1,e2,_⟩:=DataW.trod_int he h1;have h2:=yAL (λl=>l[j]?) hx1.1;simp only[yAo,hj,hy,yAC,yAb,e2,DataW.lit.injEq,Lit.int.injEq]at h2;have h3:=yAL (λl=>l[0]?) e1;simp only[yAv,yBi,yBm,Nat.zero_lt_one,yAK,yBj]at h3;rw[<-yCH,h3,h2.2]
 have hcs:BN=(xs.map (Value.int k)).toArray:=by
  apply yCk;apply yCs;intro j;rw[yAo];cases hx:xs[j]? with
  |some x=>rw[yCH,key j x hx];rfl
  |none=>
   have hj:xs.length<=j:=yEe.1 hx;rw[yBF (by rw[hlen,hct];omega)];rfl
 have hv:=sK;unfold World.var? at hv;rw[hg,yCJ]at hv;split at hv
 .rename_i cs T fz hh;simp only[yAb]at hv;exact⟨T,fz,by rw[hh,hv,hcs]⟩
 .cases hv
theorem T4{w:World}{g:Nat}{k:IntKind}{xs:List Int}{T:TypeId}{fz:Nat×Nat}(h:w.heap[g]?=some (.cells ((xs.map (Value.int k)).toArray) T fz)):VR (.start w) (.pointer (some ⟨g,0,none⟩)) (.fK (xs.map (PD.int k)) 0):=by
 have hadd:∀j,(⟨g,0,none⟩:Addr).add j=⟨g,j,none⟩:=λj=>Cw
 have:=VR.fK (c:=.start w) ⟨g,0,none⟩ (xs.map (Value.int k)) (xs.map (PD.int k)) 0 Ck (by simp[Value.oneCell']) (λj v hj=>by
  rw[hadd];refine⟨?_,aBy _⟩;show w.cell? ⟨g,j,none⟩=some v
  unfold World.cell?;simp only[h];simpa using hj) (λj v d h1 h2=>by
  rw[yAo]at h1 h2;cases hx:xs[j]? with
  |none=>rw[hx]at h1;simp at h1
  |some x=>
   rw[hx]at h1 h2;simp only[yAC,yAb]at h1 h2;subst h1 h2;exact .int k x)
 rw[hadd]at this;exact this
theorem aHK{P:Program}{w:World}{g:Nat}{t:TypeId}{k:IntKind}{zero:Jt}(h:w.ShapedOpen P)(hg:g<P.globals.size)
  (h0:((begin P (λ_ _=>0) default).world.heap[g]?).bind Obj.row?=some (zero,t)) (hz:zero.size=1) (hb:P.buildable t=true) (hty:P.cellTypes P.depth t=some [t]) (hu:P.underlying t=some (.int k)) :
  ∃m,∃T fz,w.heap[g]?=some (.cells #[.int k m] T fz):=by
 obtain⟨cs,h1,h2,h3⟩:=h.1 g zero t hg h0;have h4:=h3 hb;obtain⟨ts,e1,_,h5⟩:=h4;obtain rfl:=yAR (hty.symm.trans e1);have hsz:cs.size=1:=Cj;obtain⟨u,e2,h6⟩:=h5 0 cs[0] (yCx Cj);simp only[yDa,Nat.zero_mod,yBj,yAb]at e2;subst e2;unfold Cell.ok at h6;rw[hu]at h6;have hv:∃m,cs[0]=.int k m:=by
  cases hc:cs[0]with
  |int k' m=>
   rw[hc]at h6;simp only at h6;exact⟨m,by rw[h6.1]⟩
  |_=>
   rw[hc]at h6;simp at h6
 obtain⟨m,hm⟩:=hv;refine⟨m,t,(0,0),?_⟩;rw[h1];have:cs=#[.int k m]:=by
  apply Array.ext
  .simpa using hsz
  .intro i hi1 hi2;have:i=0:=Cj;subst this;simpa using hm
 rw[this]
end
section
open Go Go.RowKit
theorem aBd{H:Type}{enc:TypeId×Value->H}{a:Assume}{C:Checked}{os:Os}{f:FuncId}{fn:Func}{s:ChangeSpec}{conds:List PathCond}{apart fresh handsOn again:Bool}{X:World->Array Value->Prop}
  (hX:∀(w w':World) (args:Array Value),w.heap=w'.heap->X w args->X w' args)
  (own:ownKnob C.prog.godebug=none) (started:os.Started) (noInit:C.prog.inits.idxOf? f=none) (hfn:C.prog.funcs[f]?=some fn)
  (witness:∃(w:World) (tape:Tape) (i:Input),w.os=os/\(w.forCall tape i).Shaped C.prog/\i.vars=[]/\Input.okWide C.prog (w.forCall tape i) .any w.heap.size f i /\
   ((s.pre enc C.prog fn conds apart (w.forCall tape i).memory i.args/\X (w.forCall tape i).memory i.args)/\sizedMet enc C.prog fn (OpenSpec.ofChange s) apart (w.forCall tape i).memory i.args)/\a.holds C.prog (lone (Frame.enter C.prog f i.args .normal) [] (w.forCall tape i)))
  (contract:∀(W:World) (base:Nat) (args:Array Value) (ds gs:List (DataW H)) (before:List MemPlace),W.ShapedOpen C.prog ->
   (∀(j:Nat) t v,fn.params[j]?=some t->args[j]?=some v->Value.okWide C.prog W .any base t v) ->
   DataW.Whole enc C.prog fn.params.toList s.vars apart W args.toList ds gs before ->
   conds.all (PathCond.test C.prog ⟨fn.params.toList,ds,s.plain.varTypes C.prog,gs⟩)=true ->
   (DataW.weightsEach C.prog (fn.params.toList++s.plain.varTypes C.prog) (ds++gs)).all (·<=reachBytes)=true->X W args ->
   a.holds C.prog (lone (Frame.enter C.prog f args .normal) [] W) ->
   Calls C.prog f args W λe W'=>∃v,e=.returned v/\s.post enc C.prog fn apart fresh handsOn again W args v W') :
  ReturnsInHanded a C os f .any (λw args=>(s.pre enc C.prog fn conds apart w args/\X w args)/\sizedMet enc C.prog fn (OpenSpec.ofChange s) apart w args) (s.post enc C.prog fn apart fresh handsOn again):=by
 refine returnsInHanded_of_calls own started noInit witness ?_;intro w tape i _ hsh _ hok hpre hholds;obtain⟨_,_,_,fn',aKn,_,_,_,_,hval⟩:=hok;obtain rfl:fn'=fn:=yAR (aKn.symm.trans hfn);obtain⟨⟨⟨ds,gs,before,hw,hc⟩,hx⟩,hz⟩:=hpre;have hw':=DataW.Whole.of_heap (w':=w.forCall tape i) (by rfl) hw;refine(contract (w.forCall tape i) w.heap.size i.args ds gs before hsh hval hw' hc (hz.weights hw) (hX _ _ _ (by rfl) hx) hholds).mono λe W' ⟨v,he,hp⟩=>?_
 subst he;exact ChangeSpec.post_blind hp
end
section
open Go.RowKit
section
variable{H:Type}{enc:TypeId×Value->H}{P:Program}{w:World}{base:Nat}{sp:Nat->Bool}{held:Bool}
end
end
section
open Go
section
variable{P:Program}{call:cY}{fl:Nat}{ops:Ju}
end
section
variable{P:Program}{E:aE}{fl:Nat}{fr:Jq}{σ:Jp}
end
def ND:Op->Option Nat
 |.load _ (.tmp t)=>some t
 |.store _ (.tmp t) _=>some t
 |.convert _ _ (.tmp t)=>some t
 |_=>none
def JL(ops:List Oper)(i t:Nat):Bool:=(ops.drop i).all λo=>decide (o.dst≠some t)
def Z3(ops:List Oper):List (Nat×Nat):=tI ops [] λms=>
 (List.range ops.length).flatMap λk=>if eR fX ops k then(List.range ops.length).filterMap λi=>if eR eJ ops i&&loose ms i k then some (i,k)else none else []
def aFz(ops:List Oper)(L:List (Nat×Nat))(x:Nat×Nat):Bool:=match ops[x.1]?,ops[x.2]? with
 |some o,some o'=>match ND o.op,ND o'.op with
  |some a,some b=>L.any (λy=>y.1==a&&y.2==b)&&JL ops x.1 a&&JL ops x.2 b
  |_,_=>false
 |_,_=>false
def aFA(ops:Array Oper)(L:List (Nat×Nat)):Bool:=(Z3 ops.toList).all (aFz ops.toList L)
def NF(fr:List PD):List (Nat×Nat)->Prop
 | []=>True
 |x::l=>(∀a b,gQ (fr.getD x.1 (.aH []))=some a->gQ (fr.getD x.2 (.aH []))=some b->a≠b)/\NF fr l
theorem aFB{fr:Jq}:∀ {l:List (Nat×Nat)},NF fr l->∀y∈l,∀a b,gQ (fr.getD y.1 (.aH []))=some a->gQ (fr.getD y.2 (.aH []))=some b->a≠b
 | [],_,_,h=>Co
 |x::l,h,y,hm=>by
  rcases yBn.1 hm with rfl|hm
  .exact h.1
  .exact aFB h.2 y hm
section
variable{P:Program}{call:cY}{fl:Nat}{ops:Ju}
theorem Z4{fr:Jq}{dst:Option Nat}{p x:PD}{t:Nat}(h:dst≠some t):(bC fr dst p).getD t x=fr.getD t x:=by
 cases dst with
 |none=>rfl
 |some d=>
  have:d≠t:=λe=>h (by rw[e])
  simp only[bC,yAA,yAd this]
theorem Z5:∀(l:List Oper) (ms:List Nat) (i k:Nat) (fr:List PD) (σ:List aA) (tr:List TE) (fr':List PD) (σ':List aA) (t:Nat) (x:PD),
  fE P call fl ops ms i k l fr σ=some (tr,fr',σ')->(∀o∈l,o.dst≠some t)->fr'.getD t x=fr.getD t x
 | [],_,_,_,_,_,_,_,_,_,_,h,_=>by
   simp only[fE,yAb,yAc]at h;rw[h.2.1]
 |o::l,ms,i,k,fr,σ,tr,fr',σ',t,x,h,hn=>by
  simp only[fE]at h;split at h
  .split at h
   .exact jq
   .cases h
  .exact jq
theorem aPy{fr:Jq}{op:Op}{t id:Nat}(ha:ND op=some t)(h:kX fr op=some id):gQ (fr.getD t (.aH []))=some id:=by
 unfold ND at ha;split at ha
 .exact qg
 .exact qg
 .exact qg
 .cases ha
theorem SC:∀(l:List Oper) (ms:List Nat) (i k:Nat) (fr:List PD) (σ:List aA) (tr:List TE) (fr':List PD) (σ':List aA) (j t id:Nat) (o:Oper),
  fE P call fl ops ms i k l fr σ=some (tr,fr',σ')->l[j]?=some o->ND o.op=some t->JL l j t=true->(tr[j]?).bind TE.jV=some id->gQ (fr'.getD t (.aH []))=some id
 | [],_,_,_,_,_,_,_,_,_,_,_,_,_,h1,_,_,_=>by simp at h1
 |o::l,ms,i,k,fr,σ,tr,fr',σ',j,t,id,o',h,h1,ha,hu,hf=>by
  have hall:∀ {j:Nat} {l:List Oper},JL l j t=true->∀o∈l.drop j,o.dst≠some t:=λhx o ho=>by
   have:=yAn.1 hx o ho;exact cw
  have hx:=hall hu;simp only[fE]at h;split at h
  .split at h
   .split at h
    .rename_i hrec;simp only[yAb,yAc]at h;obtain⟨rfl,rfl,rfl⟩:=h;cases j with
     |zero=>
      simp only[yBj,yAb]at h1;subst h1;simp only[yBj,yCJ]at hf;simp only[yBZ]at hx;rw[Z5 l ms _ _ _ _ _ _ _ t _ hrec (λo' ho'=>hx o' (by simp[ho'])),Z4 (hx o Ck)];exact aPy ha hf
     |succ j=>
      exact qu
    .cases h
   .cases h
  .split at h
   .rename_i hrec;simp only[yAb,yAc]at h;obtain⟨rfl,rfl,rfl⟩:=h;cases j with
    |zero=>simp at hf
    |succ j=>
     exact qu
   .cases h
end
section
variable{P:Program}{E:aE}{fl:Nat}{fr:Jq}{σ:Jp}
theorem aPz(hU:aJ E){n:Nat}{ops:Ju}{x:Jq×Jp}(L:List (Nat×Nat))(hs:(tZ ops&&xJ ops&&F0 ops&&aFA ops L)=true)
  (h:fI P (l7 E) fl ops ops.toList fr σ=some x) (hp:NF x.1 L):nS P (fA P E n) fl ops fr σ=some x:=by
 simp only[yAr,tZ]at hs;obtain⟨⟨⟨h1,h2⟩,h3⟩,h4⟩:=hs;rw[oU]at h1;have hr:=BE h1;obtain⟨hs,tr,e1,e2⟩:=IG (n:=n) hU (cP ops.toList []) (λi o ho=>hr.shape i o ho) h2 h3 ops.toList 0 fr σ x Ck h;unfold nS;simp only[h1,yAK,e1,e2];have hfo:pI ops.toList (cP ops.toList []) tr=true:=by
  simp only[pI,yAn,yAS];intro k hk;cases hs:eR fX ops.toList k with
  |false=>simp
  |true=>
   simp only[yBQ,yCa,yAn,yAS];intro i hi;cases hli:eR eJ ops.toList i with
   |false=>simp
   |true=>
    cases hlo:loose (cP ops.toList []) i k with
    |false=>simp
    |true=>
     simp only[yBQ,yCa];have hm:(i,k)∈Z3 ops.toList:=by
      rw[Z3,oU];exact ot
     have hpo:=yAn.1 h4 _ hm;unfold aFz at hpo;split at hpo
     .rename_i o o' ho ho';split at hpo
      .rename_i a b ha hb;simp only[yAr,yCp,yCc]at hpo;obtain⟨⟨⟨y,hy,rfl,rfl⟩,hu1⟩,hu2⟩:=hpo;split
       .rename_i a' b' ea eb;have f1:=SC _ _ _ _ _ _ _ _ _ i _ a' o e2 ho ha hu1 ea;have f2:=SC _ _ _ _ _ _ _ _ _ k _ b' o' e2 ho' hb hu2 eb;simpa using aFB hp y hy a' b' f1 f2
       .rfl
      .cases hpo
     .cases hpo
 rw[yAJ hfo]
theorem Wp.aPA{rd:Option Nat}{ms:List Nat}{Q:PO->Prop}{ops:Ju}{id:Nat}{y:Code}(hU:aJ E)(L:List (Nat×Nat))(hs:(tZ ops&&xJ ops&&F0 ops&&aFA ops L)=true)
  (h:SQ P (l7 E) fl ops ops.toList fr σ (λfr' σ'=>NF fr' L/\Wp P E rd y fl fr' ms σ' Q)) :
  Wp P E rd (.seq (.region id ops true) y) fl fr ms σ Q:=by
 obtain⟨fr',σ',h1,h2,h3⟩:=h.ex;exact .seq ⟨_,.draw (N:=0) (λn _=>aPz hU L hs h1 h2),.normal h3⟩
end
end
section
open Go.RowKit Go.Lib
variable{P:Program}
theorem S2{t e ty:TypeId}{k:Nat}(hu:P.underlying t=some (.slice e))(hsz:∀w,(Go.sizeOf e).run P w=.ok k w)(w:World)(b off n dc:Nat)(B:Option Addr)(m sc q:Nat)(hq:Nat.min m n=q)(cells:List Value)
  (hlen:cells.length=q*k) (hload:∀(j:Nat) (v:Value),cells[j]?=some v->∃ad,B=some ad/\w.cell? (ad.add j)=some v) {cur:Jt} {T:TypeId} (hb:w.heap[b]?=some (.cells cur T (0,0))) (hle:off+cells.length<=cur.size) (h1:∀v∈cells,v.oneCell'=true) :
  (Builtin.copy_ #[t,t] ty #[.slice (some ⟨b,off,none⟩) n dc,.slice B m sc]).run P w=.ok (goInt q) (w.setRow b (cur.toList.take off++cells++cur.toList.drop (off+cells.length)).toArray):=by
 subst hq;have hst:=yDf (P:=P) b off T cells 0 cur w hb Cj h1;simp only[yBm]at hst;have hf:(Builtin.firstCells k (Nat.min m n) (.slice B m sc)).run P w=.ok cells.toArray w:=by
  cases B with
  |none=>
   have:cells=[]:=by
    cases cells with
    |nil=>rfl
    |cons x xs=>obtain⟨_,e',_⟩:=hload 0 x rfl;cases e'
   exact uo
  |some bd=>
   simp only[Builtin.firstCells];exact DI hlen λj v hj=>by
    obtain⟨ad,e',h9⟩:=hload j v hj;exact lz
 simp[Builtin.copy_,yAM hu,Builtin.lenOf,hsz,hf,goInt,hst]
theorem aRe(w:World)(tS tR e:TypeId)(ht:P.underlying tS=some (.slice e))(size:Nat)(hz:∀w,(Go.sizeOf e).run P w=.ok size w)
  (a b:Addr) (la ca lb cb:Nat) (hne:a.block≠b.block) {cA cB:Jt} {TA TB:TypeId} {fz:Nat×Nat} (ha:w.heap[a.block]?=some (.cells cA TA fz)) (ha0:cA.size≠0) (hb:w.heap[b.block]?=some (.cells cB TB (0,0))) :
  (Extern.SlicesOverlaps.overlaps #[tS,tS] #[tR] #[.slice (some a) la ca,.slice (some b) lb cb]).run P w=.ok (.bool false) w:=by
 have hnb:(a.block != b.block)=true:=by simpa using hne
 have aRf:(a.block==b.block)=false:=by simpa using hne
 have hsa:w.shape? a.block=some (TA,cA.size):=by unfold World.shape?;rw[ha]
 have hsb:w.shape? b.block=some (TB,cB.size):=by unfold World.shape?;rw[hb]
 have hfb:w.frozen? b=false:=by unfold World.frozen?;rw[hb];simp
 have hfe:w.frozen? { block:=b.block,off:=cB.size }=false:=by unfold World.frozen?;simp only[hb];simp
 obtain⟨kA,hkA⟩:∃kA,cA.size=kA+1:=⟨cA.size-1,Cj⟩;rw[hkA]at hsa
 change Sem.run P (α:=Value) (do
  let some t:=(#[tS,tS]:Array TypeId)[0]? | stuck "slices.overlaps: no parameter types"
  let .slice elem <-underlying t|stuck "slices.overlaps: slice type expected"
  let size <-sizeOf elem
  match (some a:Option Addr),(some b:Option Addr)with
  |some a,some b=>
   if la=0\/lb=0\/size=0 then pure (Value.bool false)
   else if a.block != b.block&&(<-frozen a)&&(<-frozen b)then unsupported .addressObserved
   else do
    if a.block != b.block then do
     noView a;noView b
     if <-mayBeOne a b then return Value.bool ((<-choose (.extern "sameAddr.stringBytes" 2))==1)
    pure (Value.bool (a.block==b.block&&a.off<b.off+lb*size&&b.off<a.off+la*size))
  |_,_=>pure (Value.bool false)) w=_
 by_cases h0:la=0\/lb=0\/size=0
 .simp[yAM ht,hz,h0]
 .cases hA:w.frozen? a<;>cases EH:w.frozen? { block:=a.block,off:=kA+1 } <;>
   simp[yAM ht,hz,h0,hnb,aRf,frozen,noView,viewAt,mayBeOne,stringish,shape,Sem.run,hsa,hsb,hfb,hfe,hA,EH]
theorem NV{x:Int}(h0:0<=x)(h1:x<9223372036854775808):wrap64 x=x:=by unfold wrap64;omega
theorem aRg{n c:Nat}(hc:c<=200)(hn:n+1<=201):Builtin.nextslicecap (n+1) c<=1000:=by
 unfold Builtin.nextslicecap;split
 .omega
 .rw[yAJ Cj];omega
theorem aRh{n i c G:Nat}(hi:i<n)(hnc:n<=c)(hroom:c<n+1)(hn:n<=200)(hge:n+1<=G) :
  ¬((i:Int)=(n:Int))/\IntKind.i64.wrap ((n:Int)+1)=(n:Int)+1/\IntKind.i64.wrap ((i:Int)+1)=(i:Int)+1/\wrap64 ((n:Int)+1)=(n:Int)+1/\wrap64 ((i:Int)+1)=(i:Int)+1 /\
  ((n:Int)+1-i)=((n+1-i:Nat):Int)/\wrap64 ((n:Int)+1-i)=(n:Int)+1-i/\(c:Int)<(n:Int)+1/\(i:Int)<=(n:Int)/\(i:Int)<=(c:Int)/\(0:Int)<=(i:Int)+1/\(i:Int)+1<=(n:Int)+1/\(i:Int)<=(n:Int)+1 /\
  ¬(G=i+1)/\¬(G=i)/\¬(c=i)/\((i:Int)+1).toNat=i+1/\i+(n+1-i)=n+1:=by
 have h1:((n:Int)+1-i)=((n+1-i:Nat):Int):=Cj;refine⟨Cj,Cq,Cq,NV Cj Cj,NV Cj Cj,h1,?_,Cj,Cj,Cj,Cj,Cj,Cj,Cj,Cj,Cj,Cj,Cj⟩;exact NV Cj Cj
theorem aRi{n i c NW:Nat}(hi:i<n)(hnc:n<=c)(hroom:c<n+1)(hn:n<=200)(hib:NW<=1000):0<n+1-i/\c<i+(n+1-i)/\((i+(n+1-i):Nat):Int)<=9223372036854775807/\(n+1-i)*NW<=281474976710656/\Builtin.nextslicecap (i+(n+1-i)) c*NW<=281474976710656:=by
 have e:i+(n+1-i)=n+1:=Cj;have h1:(n+1-i)*NW<=1000*1000:=yCU Cj hib;have h2:Builtin.nextslicecap (n+1) c*NW<=1000*1000:=yCU (aRg Cj Cj) hib;rw[e];exact⟨Cj,Cj,Cj,Cj,Cj⟩
structure Kept (p:Prop):Prop where
 out:p
def aGj(P:Program)(e:TypeId)(k:Nat):Bool:=match P.info? e with
 |some i=>match i.zero with
  |some z=>decide (i.size=k)&&decide (i.bytes<=1000)&&decide (z.cells.size=k)&&z.cells.toList.all Value.oneCell'
  |none=>false
 |none=>false
theorem NU{e:TypeId}{k:Nat}(h:aGj P e k=true):∃i z,P.info? e=some i/\i.zero=some z/\i.size=k/\i.bytes<=1000/\z.cells.size=k/\∀v∈z.cells.toList,v.oneCell'=true:=by
 unfold aGj at h;split at h
 .rename_i i hi;split at h
  .rename_i z hz;simp only[yAr,yCb]at h;exact⟨i,z,hi,hz,h.1.1.1,h.1.1.2,h.1.2,λv hv=>yAn.1 h.2 v hv⟩
  .cases h
 .cases h
theorem aAB(w:World):w.drew.heap=w.heap:=rfl
def aRj(w:World)(b c e k n:Nat)(L:List Value):Ending->World->Prop:=λen w'=>∃b' C' cur',en=.returned (.slice (some ⟨b',0,none⟩) (n+1) C')/\(b'=b/\C'=c\/w.heap.size<=b')/\n+1<=C'/\C'<=maxLen /\
 (w'.os=w.os/\w'.tape=w.tape/\w'.output=w.output/\w.heap.size<=w'.heap.size)/\(∀j,j<w.heap.size->j≠b->w'.heap[j]?=w.heap[j]?)/\w'.heap[b']?=some (.cells cur' e (0,0))/\cur'.size=C'*k/\(∀v∈cur'.toList,v.oneCell'=true)/\∃rest,cur'.toList=L++rest
def JW(P:Program)(f:FuncId)(e k:Nat):Prop:=∀(w:World) (b n c i vc:Nat) (a:Addr) (cur:Array Value) (vs:List Value) (cA:Array Value) (TA:TypeId) (fz:Nat×Nat),
 i<n->n<=c->n<=200->c<=maxLen->w.heap[b]?=some (.cells cur e (0,0))->cur.size=c*k->a.block≠b->w.heap[a.block]?=some (.cells cA TA fz)->cA.size≠0->vs.length=k ->
 (∀(j:Nat) (v:Value),vs[j]?=some v->w.cell? (a.add j)=some v)->(∀v∈cur.toList,v.oneCell'=true)->(∀v∈vs,v.oneCell'=true) ->
 Calls P f #[.slice (some ⟨b,0,none⟩) n c,.int .i64 i,.slice (some a) 1 vc] w (aRj w b c e k n (cur.toList.take (i*k)++vs++(cur.toList.drop (i*k)).take ((n-i)*k)))
def zU(e k:Nat):Nat->List PD->List aA->Option (PD×List aA):=λfl args σ=>match args with
 | [.aO id ver 0 n sz,.int .i64 i,.slice sx [y] _]=>match σ[id]? with
   |some (.row e' size fS cs)=>if fl<=id/\fS=ver/\size=k/\sz=k/\e'=e/\cs.length=n*k/\0<=i/\i<n/\n<=200/\sx=k/\0<k then
     some (.aO id (ver+1) 0 (n+1) k,σ.set id (.row e k (ver+1) (cs.take (i.toNat*k)++y.cells++cs.drop (i.toNat*k))))else none
   |_=>none
 |_=>none
theorem aAA{c:Cx}{vs:Js}{p q r:PD}(h:aY c vs [p,q,r]):∃v u x,vs=[v,u,x]/\VR c v p/\VR c u q/\VR c x r:=by
 match vs,h.1 with
 | [v,u,x],_=>exact⟨v,u,x,rfl,h.2 0 _ _ rfl rfl,h.2 1 _ _ rfl rfl,h.2 2 _ _ rfl rfl⟩
theorem aAC(a:Addr)(j:Nat):(a.add j).block=a.block:=Gm
theorem aF.MK{E:aE}(hE:aF P E){f:FuncId}{e k:Nat}(hf:∃fn,P.funcs[f]?=some fn/\fn.body.isSome=true)(H:JW P f e k):aF P (E.add f (zU e k)):=by
 refine hE.JR hf λfl args c vs p σ' hg hs _ hv=>?_
 unfold zU at hg;split at hg
 rotate_left
 .cases hg
 rename_i id ver n sz i sx y tok;split at hg
 rotate_left
 .cases hg
 rename_i e' size fS cs hq;split at hg
 rotate_left
 .cases hg
 rename_i hc;obtain⟨hfl,rfl,rfl,rfl,rfl,hlen,FY,hin,hn2,rfl,hk⟩:=hc;simp only[yAb,yAc]at hg;obtain⟨rfl,rfl⟩:=hg;obtain⟨v1,v2,v3,rfl,h1,h2,h3⟩:=aAA hv;obtain⟨b,cap,rfl,hp,q1,q2⟩:=h1.BM;obtain⟨_,C,hr,hCo⟩:=(hp.2 _ _ _ cs hq).2 rfl;obtain⟨b',C',cur,e1,e2,e3,e4,e5,e6,e7,e8⟩:=hs.row id _ _ _ cs hp.1 hq;rw[hr]at e1;simp only[yBH,yAb,yBG,yBk,yCe]at e1;obtain⟨rfl,rfl⟩:=e1;have hcapC:cap=C:=yEc hk Cj;subst hcapC;obtain rfl:=h2.int_eq;obtain⟨j,rfl⟩:=yEm FY;have hjn:j<n:=Cj;obtain⟨A,capx,flx,rfl,a1,a2,a3,a4,a5,a6,a7,a8⟩:=h3.pK;simp only[yDa,Nat.one_mul]at a4;obtain⟨ad,rfl,hcell,hav⟩:=a6 0 (flx[0]' Cj) (by simp[a4,hk]);have hne:ad.block≠b:=by
  have:=hav.2 id _ hp.1 hq b Ej
  rwa [aAC]at this
 obtain⟨cA,TA,fz,hA,sX⟩:∃cA TA fz,c.w.heap[ad.block]?=some (.cells cA TA fz)/\cA.size≠0:=by
  unfold World.cell? at hcell;rw[aAC]at hcell;split at hcell
  .rename_i cA TA fz hA;refine⟨cA,TA,fz,hA,λh0=>?_⟩;split at hcell
   .cases hcell
   .rw[Array.getElem?_eq_none Cj]at hcell;cases hcell
  .cases hcell
 have hjk:j*sx<=cs.length:=by rw[hlen];exact yBI _ Cj
 have hnj:(n-j)*sx=cs.length-j*sx:=by rw[hlen,Nat.sub_mul]
 have p1:aY c (cur.toList.take (j*sx)) (cs.take (j*sx)):=by
  have:=e7.take_drop 0 (j*sx);rw[yBZ,yBZ,yCd,yBL hjk]at this;exact this
 have p2:aY c ((cur.toList.drop (j*sx)).take ((n-j)*sx)) (cs.drop (j*sx)):=by
  have:=e7.take_drop (j*sx) ((n-j)*sx);rw[yDi,yCd,<-hnj,Nat.min_self]at this
  rwa [yAz (l:=cs.drop (j*sx)) (by rw[yBa,hnj];exact yAk _)]at this
 have p3:aY c flx y.cells:=by
  have hy:[y].flatMap PD.cells=y.cells:=Ck;rw[hy]at a7;exact⟨by rw[a4];exact(a3 y Ck).symm,a7⟩
 have pall:aY c (cur.toList.take (j*sx)++flx++(cur.toList.drop (j*sx)).take ((n-j)*sx)) (cs.take (j*sx)++y.cells++cs.drop (j*sx)):=(p1.append p3).append p2;refine yBC (H c.w b n cap j capx ad cur flx cA TA fz hjn q1 hn2 q2 e2 e3 hne hA sX a4 (λm v hm=>?_) e8 a5) λen w' he=>?_
 .obtain⟨H4,e9,h9,_⟩:=a6 m v hm;cases e9;exact h9
 obtain⟨b2,C2,LF,rfl,hb2,g1,g2,g3,g4,g5,g6,g7,rest,g8⟩:=he;have hk1:∀m,m<c.w.heap.size->bE (c.ρ id)≠some m->w'.heap[m]?=c.w.heap[m]?:=λm hm h=>g4 m hm (λe=>h (by rw[hr,e];rfl))
 have hk2:bE (.slice (some ⟨b2,0,none⟩) 0 C2)=bE (c.ρ id)\/∀b0,bE (.slice (some ⟨b2,0,none⟩) 0 C2)=some b0->c.w.heap.size<=b0:=by
  rcases hb2 with⟨rfl,rfl⟩ | hb2
  .exact .inl (by rw[hr])
  .exact .inr λb0 h=>by simp only[bE,yAb]at h;omega
 have hL:(cs.take (j*sx)++y.cells++cs.drop (j*sx)).length=(cur.toList.take (j*sx)++flx++(cur.toList.drop (j*sx)).take ((n-j)*sx)).length:=pall.1.symm;have hall:∃b0 C0 j6,Value.slice (some ⟨b2,0,none⟩) 0 C2=.slice (some ⟨b0,0,none⟩) 0 C0/\w'.heap[b0]?=some (.cells j6 e' (0,0))/\j6.size=C0*sx/\C0<=maxLen/\0<sx /\
   (cs.take (j*sx)++y.cells++cs.drop (j*sx)).length<=j6.size/\aY c (j6.toList.take (cs.take (j*sx)++y.cells++cs.drop (j*sx)).length) (cs.take (j*sx)++y.cells++cs.drop (j*sx))/\∀v∈j6.toList,v.oneCell'=true:=by
  refine⟨b2,C2,LF,rfl,g5,g6,g2,hk,?_,?_,g7⟩
  .rw[hL];have:=yAL List.length g8;exact ud
  .rw[hL,g8,yCt];exact pall
 have hcar:((Int.ofNat j).toNat)=j:=rfl;refine⟨c.put w' id (.slice (some ⟨b2,0,none⟩) 0 C2) (.row e' sx (fS+1) (cs.take (j*sx)++y.cells++cs.drop (j*sx))),rfl,rfl,Sr.putRow hs hp.1 hq (yCf _) (λh=>Cj) g3 hk1 hk2 hall,
  Nx.putRow hs hp.1 hq hfl (yCf _) (λh=>Cj) g3 hk1 hk2,?_,λi hi=>.inl hi⟩
 refine .aO _ _ _ _ _ _ _ ⟨hp.1,λe0 DC v1 BN hq1=>?_⟩ g1 g2;exact me
end
section
open Go
def JU:Op->Option Tmp
 |.load _ (.tmp t)=>some t
 |.store _ (.tmp t) _=>some t
 |_=>none
def G2(t:Tmp)(l:List Oper):Bool:=l.all λo=>o.dst != some t
def aAx(ops:List Oper):List (Option (Tmp×Tmp)):=tI ops [] λms=>
 (List.range ops.length).flatMap λk=>if eR fX ops k then(List.range ops.length).filterMap λi=>if eR eJ ops i&&loose ms i k then
  some (match (ops[i]?).bind (λo=>JU o.op),(ops[k]?).bind (λo=>JU o.op)with
   |some a,some b=>if G2 a (ops.drop i)&&G2 b (ops.drop k)then some (a,b)else none
   |_,_=>none)else none else []
def SY(fr:List PD):List (Option (Tmp×Tmp))->Prop
 | []=>True
 |some x::l=>(∀a b,gQ (fr.getD x.1 (.aH []))=some a->gQ (fr.getD x.2 (.aH []))=some b->a≠b)/\SY fr l
 |none::_=>False
theorem aGg{fr:Jq}:∀ {l:List (Option (Tmp×Tmp))},SY fr l->∀x,x∈l->∃a b,x=some (a,b)/\∀i j,gQ (fr.getD a (.aH []))=some i->gQ (fr.getD b (.aH []))=some j->i≠j
 | [],_,_,h=>Co
 |some y::l,h,x,hm=>by
  rcases yBn.1 hm with e|hm
  .exact⟨y.1,y.2,e,h.1⟩
  .exact aGg h.2 x hm
 |none::_,h,_,_=>h.elim
section
variable{P:Program}{call:cY}{fl:Nat}{ops:Ju}
theorem aGh{fr:Jq}{d:Option Tmp}{p:PD}{t:Tmp}(h:d≠some t):(bC fr d p).getD t (.aH [])=fr.getD t (.aH []):=by
 cases d with
 |none=>rfl
 |some d=>
  simp only[bC];rw[yAA,yAd (λe=>h (by rw[e])),<-yAA]
theorem aAy{t:Tmp}:∀(l:List Oper) (ms:List Nat) (i k:Nat) (fr:List PD) (σ:List aA) (tr:List TE) (fr':List PD) (σ':List aA),
  fE P call fl ops ms i k l fr σ=some (tr,fr',σ')->G2 t l=true->fr'.getD t (.aH [])=fr.getD t (.aH [])
 | [],_,_,_,_,_,_,_,_,h,_=>by
   simp only[fE,yAb,yAc]at h;rw[h.2.1]
 |o::l,ms,i,k,fr,σ,tr,fr',σ',h,hc=>by
  simp only[G2,yCh,yAr]at hc;have hd:o.dst≠some t:=by simpa using hc.1
  simp only[fE]at h;split at h
  .split at h
   .exact mh
   .cases h
  .exact mh
theorem aAz:∀(l:List Oper) (ms:List Nat) (i k:Nat) (fr:List PD) (σ:List aA) (tr:List TE) (fr':List PD) (σ':List aA),
  fE P call fl ops ms i k l fr σ=some (tr,fr',σ')->∀j a t,(tr[j]?).bind TE.jV=some a->(l[j]?).bind (λo=>JU o.op)=some t->G2 t (l.drop j)=true->gQ (fr'.getD t (.aH []))=some a
 | [],_,_,_,_,_,_,_,_,_,_,_,_,_,h2,_=>by simp at h2
 |o::l,ms,i,k,fr,σ,tr,fr',σ',h,j,a,t,h1,h2,hc=>by
  have h0:=h;simp only[fE]at h;split at h
  .split at h
   .split at h
    .rename_i hrec;simp only[yAb,yAc]at h;obtain⟨rfl,rfl,rfl⟩:=h;cases j with
     |zero=>
      rw[yBZ]at hc;rw[aAy _ _ _ _ _ _ _ _ _ h0 hc];simp only[yBj,yCJ]at h1 h2;unfold JU at h2;split at h2
      .exact su
      .exact su
      .cases h2
     |succ j=>
      exact td
    .cases h
   .cases h
  .split at h
   .rename_i hrec;simp only[yAb,yAc]at h;obtain⟨rfl,rfl,rfl⟩:=h;cases j with
    |zero=>simp at h1
    |succ j=>
     exact td
   .cases h
end
section
variable{P:Program}{E:aE}{fl:Nat}{fr:Jq}{σ:Jp}
theorem aQ9(hU:aJ E){n:Nat}{ops:Ju}{x:Jq×Jp}{L:List (Option (Tmp×Tmp))}(hs:(tZ ops&&xJ ops&&F0 ops)=true)
  (hL:aAx ops.toList=L) (hp:SY x.1 L) (h:fI P (l7 E) fl ops ops.toList fr σ=some x):nS P (fA P E n) fl ops fr σ=some x:=by
 simp only[yAr,tZ]at hs;obtain⟨⟨h1,h2⟩,h3⟩:=hs;rw[oU]at h1;have hr:=BE h1;obtain⟨hs,tr,e1,e2⟩:=IG (n:=n) hU (cP ops.toList []) (λi o ho=>hr.shape i o ho) h2 h3 ops.toList 0 fr σ x Ck h;have hft:=aAz _ _ _ _ _ _ _ _ _ e2;unfold nS;simp only[h1,yAK,e1,e2];have hfo:pI ops.toList (cP ops.toList []) tr=true:=by
  simp only[pI,yAn,yAS];intro k hk;cases hs:eR fX ops.toList k with
  |false=>simp
  |true=>
   simp only[yBQ,yCa,yAn,yAS];intro i hi;cases hli:eR eJ ops.toList i with
   |false=>simp
   |true=>
    cases hlo:loose (cP ops.toList []) i k with
    |false=>simp
    |true=>
     simp only[yBQ,yCa];have hm:(match (ops.toList[i]?).bind (λo=>JU o.op),(ops.toList[k]?).bind (λo=>JU o.op)with
       |some a,some b=>if G2 a (ops.toList.drop i)&&G2 b (ops.toList.drop k)then some (a,b)else none
       |_,_=>none)∈L:=by
      rw[<-hL,aAx,oU];exact ot
     obtain⟨a,b,hab,hne⟩:=aGg hp _ hm;split at hab
     .rename_i a1 b1 pa pb;split at hab
      .rename_i hc;simp only[yAr]at hc;simp only[yAb,yAc]at hab;obtain⟨rfl,rfl⟩:=hab;split
       .rename_i a' b' ea eb;have:=hne _ _ (hft i a' _ ea pa hc.1) (hft k b' _ eb pb hc.2);exact cw
       .rfl
      .cases hab
     .cases hab
 rw[yAJ hfo]
theorem Wp.aOO{rd:Option Nat}{ms:List Nat}{Q:PO->Prop}{ops:Ju}{id:Nat}(hU:aJ E)(L:List (Option (Tmp×Tmp)))(hs:(tZ ops&&xJ ops&&F0 ops)=true)
  (hL:aAx ops.toList=L) (h:SQ P (l7 E) fl ops ops.toList fr σ (λfr' σ'=>SY fr' L/\Q ⟨.normal,fr',ms,σ'⟩)) :
  Wp P E rd (.region id ops true) fl fr ms σ Q:=by
 obtain⟨fr',σ',h1,h2⟩:=h.ex;exact⟨_,.draw (N:=0) (λn _=>aQ9 hU hs hL h2.1 h1),h2.2⟩
end
end
section
open Go.RowKit Go.Lib
variable{P:Program}
def aRd(w:World)(b c e k m:Nat)(L:List Value):Ending->World->Prop:=λen w'=>∃cur',en=.returned (.slice (some ⟨b,0,none⟩) m c) /\
 (w'.os=w.os/\w'.tape=w.tape/\w'.output=w.output/\w.heap.size<=w'.heap.size)/\(∀j,j≠b->w'.heap[j]?=w.heap[j]?)/\w'.heap[b]?=some (.cells cur' e (0,0))/\cur'.size=c*k/\(∀v∈cur'.toList,v.oneCell'=true)/\∃rest,cur'.toList=L++rest
def JV(P:Program)(f:FuncId)(e k:Nat):Prop:=∀(w:World) (b n c i:Nat) (cur:Array Value),
 i<n->n<=c->c<=maxLen->w.heap[b]?=some (.cells cur e (0,0))->cur.size=c*k->(∀v∈cur.toList,v.oneCell'=true) ->
 Calls P f #[.slice (some ⟨b,0,none⟩) n c,.int .i64 i,.int .i64 ((i:Int)+1)] w (aRd w b c e k (n-1) (cur.toList.take (i*k)++(cur.toList.drop ((i+1)*k)).take ((n-1-i)*k)))
def uG(e k:Nat):Nat->List PD->List aA->Option (PD×List aA):=λfl args σ=>match args with
 | [.aO id ver 0 n sz,.int .i64 i,.int .i64 j]=>match σ[id]? with
   |some (.row e' size fS cs)=>if fl<=id/\fS=ver/\size=k/\sz=k/\e'=e/\cs.length=n*k/\0<=i/\i<n/\j=i+1/\0<k then
     some (.aO id (ver+1) 0 (n-1) k,σ.set id (.row e k (ver+1) (cs.take (i.toNat*k)++cs.drop ((i.toNat+1)*k))))else none
   |_=>none
 |_=>none
theorem aF.I1{E:aE}(hE:aF P E){f:FuncId}{e k:Nat}(hf:∃fn,P.funcs[f]?=some fn/\fn.body.isSome=true)(H:JV P f e k):aF P (E.add f (uG e k)):=by
 refine hE.JR hf λfl args c vs p σ' hg hs _ hv=>?_
 unfold uG at hg;split at hg
 rotate_left
 .cases hg
 rename_i id ver n sz i j;split at hg
 rotate_left
 .cases hg
 rename_i e' size fS cs hq;split at hg
 rotate_left
 .cases hg
 rename_i hc;obtain⟨hfl,rfl,rfl,rfl,rfl,hlen,FY,hin,rfl,hk⟩:=hc;simp only[yAb,yAc]at hg;obtain⟨rfl,rfl⟩:=hg;obtain⟨v1,v2,v3,rfl,h1,h2,h3⟩:=aAA hv;obtain⟨b,cap,rfl,hp,q1,q2⟩:=h1.BM;obtain⟨_,C,hr,hCo⟩:=(hp.2 _ _ _ cs hq).2 rfl;obtain⟨b',C',cur,e1,e2,e3,e4,e5,e6,e7,e8⟩:=hs.row id _ _ _ cs hp.1 hq;rw[hr]at e1;simp only[yBH,yAb,yBG,yBk,yCe]at e1;obtain⟨rfl,rfl⟩:=e1;have hcapC:cap=C:=yEc hk Cj;subst hcapC;obtain rfl:=h2.int_eq;obtain rfl:=h3.int_eq;obtain⟨j,rfl⟩:=yEm FY;have hjn:j<n:=Cj;have hcar:((Int.ofNat j).toNat)=j:=rfl;have hj1:(j+1)*sz<=cs.length:=by rw[hlen];exact yBI _ Cj
 have hjk:j*sz<=cs.length:=by rw[hlen];exact yBI _ Cj
 have hnj:(n-1-j)*sz=cs.length-(j+1)*sz:=by rw[hlen,<-Nat.sub_mul];congr 1;omega
 have p1:aY c (cur.toList.take (j*sz)) (cs.take (j*sz)):=by
  have:=e7.take_drop 0 (j*sz);rw[yBZ,yBZ,yCd,yBL hjk]at this;exact this
 have p2:aY c ((cur.toList.drop ((j+1)*sz)).take ((n-1-j)*sz)) (cs.drop ((j+1)*sz)):=by
  have:=e7.take_drop ((j+1)*sz) ((n-1-j)*sz);rw[yDi,yCd,<-hnj,Nat.min_self]at this
  rwa [yAz (l:=cs.drop ((j+1)*sz)) (by rw[yBa,hnj];exact yAk _)]at this
 have pall:=p1.append p2;refine yBC (H c.w b n cap j cur hjn q1 q2 e2 e3 e8) λen w' he=>?_
 obtain⟨LF,rfl,g3,g4,g5,g6,g7,rest,g8⟩:=he;have hk1:∀m,m<c.w.heap.size->bE (c.ρ id)≠some m->w'.heap[m]?=c.w.heap[m]?:=λm hm h=>g4 m (λe=>h (by rw[hr,e];rfl))
 have hL:(cs.take (j*sz)++cs.drop ((j+1)*sz)).length=(cur.toList.take (j*sz)++(cur.toList.drop ((j+1)*sz)).take ((n-1-j)*sz)).length:=pall.1.symm;have hall:∃b0 C0 j6,c.ρ id=.slice (some ⟨b0,0,none⟩) 0 C0/\w'.heap[b0]?=some (.cells j6 e' (0,0))/\j6.size=C0*sz/\C0<=maxLen/\0<sz /\
   (cs.take (j*sz)++cs.drop ((j+1)*sz)).length<=j6.size/\aY c (j6.toList.take (cs.take (j*sz)++cs.drop ((j+1)*sz)).length) (cs.take (j*sz)++cs.drop ((j+1)*sz))/\∀v∈j6.toList,v.oneCell'=true:=by
  refine⟨b,cap,LF,hr,g5,g6,q2,hk,?_,?_,g7⟩
  .rw[hL];have:=yAL List.length g8;exact ud
  .rw[hL,g8,yCt];exact pall
 refine⟨c.put w' id (c.ρ id) (.row e' sz (fS+1) (cs.take (j*sz)++cs.drop ((j+1)*sz))),rfl,rfl,Sr.putRow hs hp.1 hq (yCf _) (λ_=>rfl) g3 hk1 (.inl rfl) hall,
  Nx.putRow hs hp.1 hq hfl (yCf _) (λ_=>rfl) g3 hk1 (.inl rfl),?_,λi hi=>.inl hi⟩
 refine .aO _ _ _ _ _ _ _ ⟨hp.1,λe0 DC v1 BN hq1=>?_⟩ Cj q2;exact ey
end
section
def isApp:Op->Bool
 |.call { callee:=.builtin .append,.. }=>true
 |_=>false
def aHp:Op->Bool
 |.call { callee:=.value _,.. }=>true
 |_=>false
def kF(op:Op)(σ σ':List aA):Prop:=σ.length<=σ'.length/\∀(id:Nat) (b:PD),σ[id]?=some (aA.box b)->∃b',σ'[id]?=some (aA.box b')/\(fX op=false->b'=b)
theorem kF.same(op:Op)(σ:List aA):kF op σ σ:=⟨yAk _,λ_ b h=>⟨b,h,λ_=>rfl⟩⟩
theorem kF.app(op:Op)(σ L:List aA):kF op σ (σ++L):=⟨Ck,λid b h=>⟨b,by rw[yAg (yA.1 h).1];exact h,λ_=>rfl⟩⟩
theorem kF.set(op:Op){σ:Jp}{id:Nat}{o x:aA}(ho:σ[id]?=some o)(hb:∀b,o≠aA.box b):kF op σ (σ.set id x):=⟨Ck,λi b h=>by
 by_cases e:id=i
 .subst e;rw[ho,yAb]at h;exact absurd h (hb b)
 .exact⟨b,by rw[yAd e];exact h,λ_=>rfl⟩⟩
theorem kF.aTa{op:Op}(hop:fX op=true){σ:Jp}{id:Nat}{q:PD}:kF op σ (σ.set id (.box q)):=⟨Ck,λi b hb=>by
 by_cases e:id=i
 .subst e;exact⟨q,yAj (yA.1 hb).1,λh=>by rw[hop]at h;cases h⟩
 .exact⟨b,by rw[yAd e];exact hb,λ_=>rfl⟩⟩
theorem aTb{P:Program}{fl:Nat}{σ σ':Jp}{t:TypeId}{s x p:PD}(op:Op)(h:kK P fl σ t s x=some (p,σ')):kF op σ σ':=by
 unfold kK at h
 repeat' split at h
 all_goals first
  |(cases h;done)
  |(simp only[yAb,yAc]at h;obtain⟨_,rfl⟩:=h;first|exact kF.same _ _|exact kF.app _ _ _|exact kF.set _ ‹_=some (aA.own _ _ _)› (λb e=>Dh))
theorem aHq{P:Program}{n fl:Nat}{σ σ':Jp}{t:TypeId}{s x p:PD}(op:Op)(h:dM P n fl σ t s x=some (p,σ')):kF op σ σ':=by
 unfold dM at h
 repeat' split at h
 all_goals first
  |(cases h;done)
  |(simp only[yAb,yAc]at h;obtain⟨_,rfl⟩:=h;first|exact kF.same _ _|exact kF.app _ _ _|exact kF.set _ ‹_=some (aA.row _ _ _ _)› (λb e=>Dh))
theorem aTc{P:Program}{fl:Nat}{σ σ':Jp}{t:TypeId}{a p:PD}{op:Op}(hop:fX op=true)(h:rH P fl σ t a p=some σ'):kF op σ σ':=by
 unfold rH at h
 repeat' split at h
 all_goals first
  |(cases h;done)
  |skip
 .simp only[yAb]at h;subst h;exact kF.aTa hop
 .simp only[yAb]at h;subst h;exact kF.set _ ‹_=some (aA.row _ _ _ _)› (λb e=>Dh)
theorem aTd{P:Program}{n:Nat}{σ σ':Jp}{t:TypeId}{s p:PD}{m:Int}(op:Op)(h:HQ P n σ t s m=some (p,σ')):kF op σ σ':=by
 unfold HQ at h
 repeat' split at h
 all_goals first
  |(cases h;done)
  |(simp only[yAb,yAc]at h;obtain⟨_,rfl⟩:=h;exact kF.app _ _ _)
theorem pmake_box{P:Program}{σ σ':Jp}{t e:TypeId}{l k:Nat}{p:PD}(op:Op)(h:tM P σ t e l k=some (p,σ')):kF op σ σ':=by
 unfold tM at h
 repeat' split at h
 all_goals first
  |(cases h;done)
  |(simp only[yAb,yAc]at h;obtain⟨_,rfl⟩:=h;first|exact kF.same _ _|exact kF.app _ _ _)
def G9(op:Op):Bool:=fB op||eJ op||mS op||fX op||isApp op
theorem aTe{P:Program}{fl:Nat}{fr:Jq}{σ σ':Jp}{op:Op}{p:PD}(hop:G9 op=true)(h:pop P fl fr σ op=some (p,σ')):kF op σ σ':=by
 unfold pop at h;split at h
 .simp only[yAb,yAc]at h;rw[<-h.2];exact kF.same _ _
 unfold dE at h;split at h
 all_goals first
  |(cases h;done)
  |(simp[G9,fB,eJ,mS,fX,isApp]at hop;done)
  |skip
 .repeat' split at h
  all_goals first
   |(cases h;done)
   |(simp only[yAb,yAc]at h;rw[<-h.2];exact kF.same _ _)
 .repeat' split at h
  all_goals first
   |(cases h;done)
   |(rename_i hs;simp only[yAb,yAc]at h;rw[<-h.2];exact aTc rfl hs)
 .repeat' split at h
  all_goals first
   |(cases h;done)
   |(simp only[yAb,yAc]at h;rw[<-h.2];exact kF.same _ _)
 .repeat' split at h
  all_goals first
   |(cases h;done)
   |(simp only[yAb,yAc]at h;rw[<-h.2];exact kF.same _ _)
 .repeat' split at h
  all_goals first
   |(cases h;done)
   |exact pmake_box _ h
 .repeat' split at h
  all_goals first
   |(cases h;done)
   |(rename_i hs;cases h;exact aHq _ hs)
   |exact aTb _ h
   |exact aTd _ h
   |(simp only[yAb]at h;subst h;rename_i hs;exact aHq _ hs)
def J4(ops:List Oper):Bool:=ops.all λo=>G9 o.op||aHp o.op
theorem aHr{op:Op}(h:G9 op=true):dA op=false/\(dR op=true->isApp op=true):=by
 cases op<;>simp[G9,fB,eJ,mS,fX,isApp,dA,dR]at h ⊢
 rename_i c;obtain⟨cal,args,ts⟩:=c;cases cal with
 |value v=>simp[fB,eJ,mS,fX,isApp]at h
 |builtin b=>cases b<;>simp[fB,eJ,mS,fX,isApp,dR]at h ⊢
 |invoke _ _=>simp[fB,eJ,mS,fX,isApp,dR]at h ⊢
section
variable{P:Program}{E:aE}{fl:Nat}{ops:Ju}
theorem aA2:∀ {l:List Oper},J4 l=true->mT P l=some []
 | [],_=>rfl
 |o::l,h=>by
  simp only[J4,yCh,yAr]at h;unfold mT;split
  .rename_i t ho;have h1:=h.1;rw[ho]at h1;cases h1
  .exact aA2 h.2
theorem aTf{o:Oper}(h:(G9 o.op||aHp o.op)=true):dA o.op=false:=by
 rw[yBu]at h;rcases h with h|h
 .exact(aHr h).1
 .cases ho:o.op<;>rw[ho]at h<;>first|rfl|(cases h;done)
theorem aA3{B:List Nat}{n:Nat}:∀(l:List Oper) (i k:Nat) (fr:List PD) (σ:List aA) (x:Jq×List aA),(∀o∈l,(fB o.op||eJ o.op||dA o.op||mS o.op||eS o.op)=true)->J4 l=true->(∀id∈B,∃b,σ[id]?=some (aA.box b)) ->
  fI P (uN E B) fl ops l fr σ=some x->∃tr,p8 P (fA P E n) fl ops i k l fr σ=some (tr,x.1,x.2) /\
   ∀(j:Nat) (o:Oper),l[j]?=some o->dR o.op=true->(TE.at tr x.2 j).length<=(TE.at tr x.2 (j+1)).length/\∀id∈B,id<(TE.at tr x.2 j).length->(TE.at tr x.2 (j+1))[id]?=(TE.at tr x.2 j)[id]?
 | [],_,_,_,_,x,_,_,_,h=>by
   exact xm
 |o::l,i,k,fr,σ,x,hsh,hk,hB,h=>by
  simp only[J4,yCh,yAr]at hk;obtain⟨hko,hkl⟩:=hk;have hka:=aTf hko;simp only[fI]at h;split at h
  .rename_i hw;split at h
   .rename_i p σ1 hp;have hst:cZ P (fA P E n) fl fr σ o.op=some (p,σ1)/\(∀id∈B,∃b,σ1[id]?=some (aA.box b))/\(dR o.op=true->σ.length<=σ1.length/\∀id∈B,id<σ.length->σ1[id]?=σ[id]?):=by
     unfold cZ at hp ⊢;split at hp
     .rename_i tg args hc;obtain⟨q1,q2,q3⟩:=aGf hp;exact⟨UI q1,λid hi=>by
       obtain⟨b,hb⟩:=hB id hi;exact⟨b,(q3 id hi (yA.1 hb).1).trans hb⟩,λ_=>⟨q2,q3⟩⟩
     .rename_i hc
      by_cases hq:G9 o.op=true
      .obtain⟨b1,b2⟩:=aTe hq hp;refine⟨hp,λid hi=>by
        obtain⟨b,hb⟩:=hB id hi;obtain⟨b',hb',_⟩:=b2 id b hb;exact⟨b',hb'⟩,λhm=>⟨b1,λid hi _=>?_⟩⟩
       obtain⟨b,hb⟩:=hB id hi;obtain⟨b',hb',e⟩:=b2 id b hb;have hns:fX o.op=false:=by
        have:=(aHr hq).2 hm;cases ho:o.op<;>rw[ho]at this<;>first|rfl|(cases this;done)
       rw[hb',hb,e hns]
      .exfalso
       simp only[hq,yCa]at hko;cases ho:o.op<;>rw[ho]at hko<;>first|(cases hko;done)|skip
       rename_i c;obtain⟨cal,args,ts⟩:=c;cases cal with
       |value v=>
        rw[ho]at hp;unfold pop at hp;simp[eP,dE]at hp
       |builtin b=>cases hko
       |invoke _ _=>cases hko
    obtain⟨tr,h1,h2⟩:=aA3 (n:=n) l (i+1) k _ _ x (λo ho=>hsh o (by simp[ho])) hkl hst.2.1 h;refine⟨⟨fr,σ,p,kX fr o.op⟩::tr,?_,?_⟩
    .exact so
    .intro j o' ho' hm;cases j with
     |zero=>
      simp only[yBj,yAb]at ho';subst ho';rw[TE.xC,TE.SW,TE.SX h1];exact hst.2.2 hm
     |succ j=>
      exact jr
   .cases h
  .rename_i hw;obtain⟨tr,h1,h2⟩:=aA3 (n:=n) l (i+1) k _ _ x (λo ho=>hsh o (by simp[ho])) hkl hB h;exact gq
theorem aTg{n:Nat}{fr:Jq}{σ:Jp}{x:Jq×Jp}(ρ:List (Nat×Nat))(B:List Nat){L:List (Option Nat)}(hs:(tZ ops&&J4 ops.toList&&GZ ops)=true)(hbx:∀id∈B,∃b,σ[id]?=some (aA.box b))(hd:nS P (fA P E n) fl ops fr σ=none)
  (hρ:(eK.of ρ).ok fr) (hL:G1 ops.toList (eK.of ρ)=L) (hB:qG B L) (h:fI P (uN E B) fl ops ops.toList fr σ=some x):mU P (fA P E n) fl ops fr σ=some x:=by
 simp only[yAr,tZ]at hs;obtain⟨⟨h1,h2⟩,h3⟩:=hs;rw[oU]at h1;have hr:=BE h1;obtain⟨tr,e1,e2⟩:=aA3 (n:=n) ops.toList 0 σ.length fr σ x (λo ho=>by
  obtain⟨i,hi⟩:=yDj ho;exact hr.shape i o Ia) h2 hbx h
 have hft:=SS _ _ _ _ _ _ _ _ _ e1 hρ;unfold mU;rw[hd];simp only[h1,yAK,aA2 h2,yAl,e1];exact bt
def aHs(ops:Array Oper):Bool:=tI ops.toList [] λms=>wI ops ms&&(List.range ops.toList.length).all λk=>!eR fX ops.toList k||(List.range ops.toList.length).all λi=>!eR eJ ops.toList i||!loose ms i k
def DQ(P:Program)(call:cY)(fl:Nat)(ops:Array Oper)(i k:Nat)(l:List Oper)(fr:List PD)(σ:List aA)(F:List PD)(S:List aA):Prop:=∃tr,fE P call fl ops (cP ops.toList []) i k l fr σ=some (tr,F,S)
theorem DQ.nil{call:cY}{i k:Nat}{fr:Jq}{σ:Jp}:DQ P call fl ops i k [] fr σ fr σ:=⟨[],rfl⟩
theorem DQ.step{call:cY}{i k:Nat}{o:Oper}{rest:List Oper}{fr F aX:Jq}{σ σ' S:Jp}{p:PD}(hw:(Region.wanted o (cH ops fr)&&!dA o.op)=true)(hp:iA P call fl (kT ops.toList (cP ops.toList []) i) k fr σ o.op=some (p,σ'))(hf:bC fr o.dst p=aX)
  (h:DQ P call fl ops (i+1) k rest aX σ' F S):DQ P call fl ops i k (o::rest) fr σ F S:=by
 rw[yAr,yBv]at hw;obtain⟨tr,h⟩:=h;refine⟨⟨fr,σ,p,kX fr o.op⟩::tr,?_⟩;rw[<-hf]at h;simp only[fE,hw.1,hw.2,yAK,hp,h,yAx,yAN]
theorem DQ.alloc{call:cY}{i k:Nat}{o:Oper}{rest:List Oper}{fr F aX:Jq}{σ S:Jp}(hw:(Region.wanted o (cH ops fr)&&dA o.op)=true)(hf:bC fr o.dst (.ptr k 0)=aX)
  (h:DQ P call fl ops (i+1) (k+1) rest aX σ F S):DQ P call fl ops i k (o::rest) fr σ F S:=by
 rw[yAr]at hw;obtain⟨tr,h⟩:=h;refine⟨⟨fr,σ,.ptr k 0,kX fr o.op⟩::tr,?_⟩;rw[<-hf]at h;have ha:fB o.op=false:=by
  have:=hw.2;cases ho:o.op<;>rw[ho]at this<;>first|rfl|(cases this;done)
 have hp:iA P call fl (kT ops.toList (cP ops.toList []) i) k fr σ o.op=some (.ptr k 0,σ):=by
  unfold iA;rw[ha,yAI Cn,yAJ hw.2]
 simp only[fE,hw.1,hw.2,yAK,hp,h]
theorem aAX{call:cY}{free:Bool}{k:Nat}{fr:Jq}{σ:Jp}{t:TypeId}{x:Operand}{a p:PD}(hx:cU fr x=some a)(h:qO P σ t a=some p):iA P call fl free k fr σ (.load t x)=some (p,σ):=by
 simp only[iA,fB,dA,dR,yAY,yBr,yAx,yAN,dE,fJ hx,h]
theorem aS7{call:cY}{free:Bool}{k:Nat}{fr:Jq}{σ σ':Jp}{t:TypeId}{x y:Operand}{a p:PD}(hx:cU fr x=some a)(hy:cU fr y=some p)(h:rH P fl σ t a p=some σ'):iA P call fl free k fr σ (.store t x y)=some (.aH [],σ'):=by
 simp only[iA,fB,dA,dR,yAY,yBr,yAx,yAN,dE,fJ hx,fJ hy,h]
theorem aHm{call:cY}{free:Bool}{k:Nat}{fr:Jq}{σ:Jp}{t:TypeId}{len:Nat}{parts:Array (Nat×Operand)}{ps:List (Nat×PD)}{p:PD}(hx:BB fr parts.toList=some ps)(h:uX P t len (ps.map λq=>(q.1,q.2.strip))=some p):iA P call fl free k fr σ (.buildSlice t len parts)=some (p,σ):=by
 simp only[iA,fB,dA,dR,yAY,yBr,yAx,yAN,dE,KT hx,h]
theorem aS6{call:cY}{free:Bool}{k:Nat}{fr:Jq}{σ:Jp}{t:TypeId}{parts:Array (Nat×Operand)}{ps:List (Nat×PD)}{p:PD}(hx:BB fr parts.toList=some ps)(h:FB P t ps=some p):iA P call fl free k fr σ (.build t parts)=some (p,σ):=by
 simp only[iA,fB,yAK,eP,KT hx,h]
theorem aHn{call:cY}{free:Bool}{k:Nat}{fr:Jq}{σ L:Jp}{t:TypeId}{x y:Operand}{a b p:PD}(hx:cU fr x=some a)(hy:cU fr y=some b)(h:∀fl,dM P fr.length fl σ t a b=some (p,σ++L)):iA P call fl free k fr σ (.call { callee:=.builtin .append,args:=#[x,y],argTypes:=#[t,t] })=some (p,σ++L):=by
 simp only[iA,fB,dA,dR,yAY,yBr,yAx,yAN,cZ,iU,pop,eP,dE,lM,fJ hx,fJ hy,h,yAK];cases free<;>simp[List.drop_left]
theorem Wp.aS5{rd:Option Nat}{ms:List Nat}{Q:PO->Prop}{id:Nat}{y:Code}{fr F:Jq}{σ hs S:Jp}(hreg:aHs ops=true)(hh:mT P ops.toList=some hs)(h:∀call,DQ P call fl ops 0 σ.length ops.toList fr (σ++hs) F S)(k:Wp P E rd y fl F ms S Q):Wp P E rd (.seq (.region id ops true) y) fl fr ms σ Q:=by
 refine .seq ⟨_,.K1 (N:=0) (λn _=>?_),.normal k⟩;obtain⟨tr,ht⟩:=h (fA P E n);unfold aHs at hreg;rw[oU]at hreg;simp only[yAr,yAn,yAS,yBu,yBv]at hreg;unfold mU nS;simp only[hreg.1,yAK,hh,ht];rw[yAJ];simp only[pI,yAn,yAS,yBu,yBv];intro k hk;rcases hreg.2 k hk with h|h
 .exact .inl h
 .refine .inr λi hi=>?_
  rcases h i hi with h|h
  .exact .inl (.inl h)
  .exact .inl (.inr h)
theorem Wp.aS8{rd:Option Nat}{ms:List Nat}{Q:PO->Prop}{id f:Nat}{g:Jk}{fr:Jq}{σ:Jp}(hE:E f=some g)(hg:∀fl args σ,0<fl->g fl args σ=none)(eQ:σ≠[])(ρ:List (Nat×Nat))(B:List Nat)(L:List (Option Nat))
  (hs:(tZ ops&&J4 ops.toList&&GZ ops&&JT f ops)=true) (hbx:∀id∈B,∃b,σ[id]?=some (aA.box b)) (hρ:eK.SU fr ρ) (hL:G1 ops.toList (eK.of ρ)=L) (hB:qG B L) (h:SQ P (uN E B) fl ops ops.toList fr σ (λfr' σ'=>Q ⟨.normal,fr',ms,σ'⟩)) :
  Wp P E rd (.region id ops true) fl fr ms σ Q:=by
 obtain⟨fr',σ',h1,h2⟩:=h.ex;rw[yAr]at hs;refine⟨_,.K1 (N:=0) (λn _=>aTg ρ B hs.1 hbx ?_ (eK.aAw ρ hρ) hL hB h1),h2⟩;have h2:=hs.1;have h4:=hs.2;simp only[yAr,tZ]at h2;obtain⟨⟨a1,a2⟩,_⟩:=h2;rw[oU]at a1;have hr:=BE a1;cases hd:nS P (fA P E n) fl ops fr σ with
 |none=>rfl
 |some y=>
  exfalso
  unfold nS at hd;simp only[a1,yAK,aA2 a2,yAl]at hd;rw[JT,oU]at h4;simp only[yCp,yAS,yAr,yBv,yAn]at h4;obtain⟨k,hk,⟨b1,b2⟩,b3⟩:=h4;have hkl:k<ops.toList.length:=Im;have hno:fE P (fA P E n) fl ops (cP ops.toList []) 0 σ.length ops.toList fr σ=none:=by
   refine aAs hE hg (λo ho=>?_) k 0 _ _ _ _ ops.toList[k] Ck eQ (yAh hkl) ?_ (by simpa using b2) ?_
   .exact yh
   .unfold aAq at b1;rw[yAh hkl]at b1;exact b1
   .intro j o' hj ho';obtain⟨this,that⟩:=b3 j hj;exact xx
  rw[hno]at hd;cases hd
end
end
end Go.Kz
end
