/- Steps of the proof. -/
import Derived.Test.YteegpeenjdgodaaGreatDoorG2
import Derived.Below
import Derived.OpenShut
import Derived.FnData
import Derived.MakeChecks
import Derived.ProofKit
import Derived.LaidMore
import Derived.Stop.Joined
import Derived.ChangeArms
import Derived.DataReads
import Derived.Test.YteegpeenjdgodaaGreatDoorProg
import Derived.KernelRfl
import Derived.Handed
import Derived.SizedLaws
import Derived.Lib.Overlaps
import Derived.Lib.AppendZerosOnto
set_option linter.all false
set_option maxHeartbeats 40000000
set_option maxRecDepth 100000
open Go.Proofs.Tryz
noncomputable section
namespace Go.Kz
section
open Go.RowKit
def Cx.start(w:World):Cx:={ w:=w,ρ:=λ_=>undef,σ:=[],D:=λ_=>False,X:=λ_=>True }
theorem Sr.start{w:World}(hg:Gl (.start w)):Sr (.start w) where
 box:=λ_ _ h=>h.elim
 own:=λ_ _ _ _ h=>h.elim
 row:=λ_ _ _ _ _ h=>h.elim
 map:=λ_ _ h=>h.elim
 mark:=λ_ h=>h.elim
 loop:=λ_ _ _ _ _ _ h=>h.elim
 inj:=λ_ _ _ h=>h.elim
 lt:=λ_ _ h=>h.elim
 bG:=λ_ h=>h.elim
 fresh:=λ_ _=>trivial
 jQ:=hg
theorem aAH{w:World}(a:Addr):(Cx.start w).av a:=⟨trivial,λ_ _ h=>h.elim⟩
theorem aHI{P:Program}(hN:∀(f:FuncId) fn,P.funcs[f]?=some fn->(fn.name== "runtime.NumGoroutine")=false):Open Fence.wide P:=⟨λ_=>trivial,rfl,hN,rfl⟩
theorem aHJ{P:Program}{E:aE}(hE:aF P E)(hP:P.follows .mixedOrders=true)(hN:∀(f:FuncId) fn,P.funcs[f]?=some fn->(fn.name== "runtime.NumGoroutine")=false)
  {n:Nat} {f:FuncId} {args:Gc} {vs:Ge} {w:World} {p:PD} {σ':Gb} (h:eN P E n 0 (.inl f) args []=some (p,σ')) (hg:Gl (.start w)) (hv:aV (.start w) vs args) :
  Calls P f vs.toArray w λe w'=>∃v c',e=.returned v/\c'.w=w'/\VR c' v p/\Nx 0 (.start w) c'/\Below w.heap.size w w':=by
 have:=((BH hE hP (aHI hN) n).fn (c:=.start w) (fl:=0) h (.start hg) (λ_ _ h=>h.elim) hv).2 0;refine yBA (callsIn_wide.1 this) λe w' he=>?_
 cases e with
 |returned v=>
  obtain⟨c',e1,_,_,nx,hvv,_⟩:=he;refine⟨v,c',rfl,e1,hvv,nx,?_⟩;subst e1;exact⟨nx.os,nx.tape,nx.output,nx.size,λk hk=>nx.frame k hk (λ_ h=>h.elim)⟩
 |panicked ch=>exact he.elim
 |outgrown=>exact he.elim
theorem aHu{P:Program}{E:aE}(hE:aF P E)(hP:P.follows .mixedOrders=true)(hN:∀(f:FuncId) fn,P.funcs[f]?=some fn->(fn.name== "runtime.NumGoroutine")=false)
  {n:Nat} {f:FuncId} {args:Gc} {vs:Ge} {w:World} {b:Bool} {σ':Gb} (h:eN P E n 0 (.inl f) args []=some (.bool b,σ')) (hg:Gl (.start w)) (hv:aV (.start w) vs args) :
  Calls P f vs.toArray w λe w'=>e=.returned (.bool b)/\Below w.heap.size w w':=by
 refine yBA (aHJ hE hP hN h hg hv) λe w' ⟨v,c',h1,h2,h3,h4,h5⟩=>?_
 rw[h3.zM]at h1;exact⟨h1,h5⟩
end
section
open Go.RowKit
end
section
section
variable{P:Program}{E:aE}{rd:Option Nat}{fl:Nat}{fr:Gc}{ms:List Nat}{σ:Gb}{r:PO}
def Ev(P:Program)(E:aE)(rd:Option Nat)(c:Code)(fl:Nat)(fr:List PD)(ms:List Nat)(σ:List aB)(r:PO):Prop:=∃N,∀n,N<=n->iO P E n rd c fl fr ms σ=some r
def jL(P:Program)(E:aE)(fl:Nat)(f:FuncId ⊕ Nat)(args:List PD)(σ:List aB)(p:PD)(σ':List aB):Prop:=∃N,∀n,N<=n->eN P E n fl f args σ=some (p,σ')
theorem Ev.step{c:Code}{N:Nat}(h:∀n,N<=n->iO P E (n+1) rd c fl fr ms σ=some r):Ev P E rd c fl fr ms σ r:=
 ⟨N+1,λn hn=>by obtain⟨m,rfl⟩:∃m,n=m+1:=⟨n-1,Ah⟩;exact h m Ah⟩
theorem Ev.skip:Ev P E rd .skip fl fr ms σ ⟨.normal,fr,ms,σ⟩:=.step (N:=0) λ_ _=>rfl
theorem Ev.ret:Ev P E rd .ret fl fr ms σ ⟨.ret,fr,ms,σ⟩:=.step (N:=0) λ_ _=>rfl
theorem Ev.exit{id:Nat}:Ev P E rd (.exit id) fl fr ms σ ⟨.exit id,fr,ms,σ⟩:=.step (N:=0) λ_ _=>rfl
theorem Ev.seq{x y:Code}{aS:Gc}{ms1:List Nat}{σ1:Gb}(h:Ev P E rd x fl fr ms σ ⟨.normal,aS,ms1,σ1⟩)(k:Ev P E rd y fl aS ms1 σ1 r):Ev P E rd (.seq x y) fl fr ms σ r:=by
 exact mg
theorem Ev.aAQ{x y:Code}(h:Ev P E rd x fl fr ms σ r)(hr:r.x≠.normal):Ev P E rd (.seq x y) fl fr ms σ r:=by
 exact ki
theorem Ev.cond{g:Operand}{x y:Code}{b:Bool}(hg:aZ fr g=some (.bool b))(h:Ev P E rd (if b then x else y) fl fr ms σ r):Ev P E rd (.cond g x y) fl fr ms σ r:=by
 obtain⟨N,h⟩:=h;exact .step (N:=N) λn hn=>by
  simp only[iO,hg];cases b<;>exact h n hn
theorem Ev.block{id:Nat}{b:Code}{aS:Gc}{ms1:List Nat}{σ1:Gb}{k:Nat}(h:Ev P E rd b fl fr ms σ ⟨.exit k,aS,ms1,σ1⟩):Ev P E rd (.block id b) fl fr ms σ ⟨if k=id then .normal else .exit k,aS,ms1,σ1⟩:=by
 obtain⟨N,h⟩:=h;exact .step (N:=N) λn hn=>by simp only[iO,h n hn]
theorem Ev.aAR{id:Nat}{b:Code}(h:Ev P E rd b fl fr ms σ r)(hr:∀k,r.x≠.exit k):Ev P E rd (.block id b) fl fr ms σ r:=by
 obtain⟨N,h⟩:=h;exact .step (N:=N) λn hn=>by
  simp only[iO,h n hn];obtain⟨x,a,b,c⟩:=r;cases x<;>first|exact absurd rfl (hr _)|rfl
theorem Ev.loop{b:Code}{aS:Gc}{ms1:List Nat}{σ1:Gb}(h:Ev P E rd b fl fr ms σ ⟨.normal,aS,ms1,σ1⟩)(k:Ev P E rd (.loop b) fl aS ms1 σ1 r):Ev P E rd (.loop b) fl fr ms σ r:=by
 exact mg
theorem Ev.aAS{b:Code}(h:Ev P E rd b fl fr ms σ r)(hr:r.x≠.normal):Ev P E rd (.loop b) fl fr ms σ r:=by
 exact ki
theorem Ev.region{id:Nat}{ops:Gg}{aS:Gc}{σ1:Gb}{N:Nat}(h:∀n,N<=n->eF P (eN P E n) fl ops ops.toList fr σ=some (aS,σ1)):Ev P E rd (.region id ops false) fl fr ms σ ⟨.normal,aS,ms,σ1⟩:=
 .step (N:=N) λn hn=>by
  have:=h n hn;unfold eN at this;simp only[iO,BM,this]
theorem Ev.R9{id:Nat}{ops:Gg}{aS:Gc}{σ1:Gb}{N:Nat}(h:∀n,N<=n->nS P (eN P E n) fl ops fr σ=some (aS,σ1)):Ev P E rd (.region id ops true) fl fr ms σ ⟨.normal,aS,ms,σ1⟩:=
 .step (N:=N) λn hn=>by
  have:=h n hn;unfold eN at this;simp only[iO,this]
theorem Ev.draw{id:Nat}{ops:Gg}{aS:Gc}{σ1:Gb}{N:Nat}(h:∀n,N<=n->oV P (eN P E n) fl ops fr σ=some (aS,σ1)):Ev P E rd (.region id ops true) fl fr ms σ ⟨.normal,aS,ms,σ1⟩:=
 .R9 (N:=N) λn hn=>by unfold nS;rw[h n hn]
theorem jL.body{f:FuncId}{fn:Func}{c:Code}{args:Gc}{p:PD}{σ':Gb}(hE:E f=none)(hf:P.funcs[f]?=some fn)(hb:fn.body=some c)
  (h:Ev P E none c fl (args++List.replicate (fn.ntmps-args.length) (.aI [])) [] σ r) (hr:cI P fl fn r=some (p,σ')):jL P E fl (.inl f) args σ p σ':=by
 obtain⟨N,h⟩:=h;exact⟨N,λn hn=>by simp only[eN,qX,hE,DW,hf,hb,h n hn,hr]⟩
end
def aE.add(E:aE)(f:FuncId)(g:Nat->List PD->List aB->Option (PD×List aB)):aE:=λf'=>if f'=f then some g else E f'
theorem aF.add{P:Program}{E:aE}(hE:aF P E)(hP:P.follows .mixedOrders=true){f:FuncId}{g:Fw}
  (h:∀fl args σ p σ',g fl args σ=some (p,σ')->jL P E fl (.inl f) args σ p σ'):aF P (E.add f g):=by
 intro F fl f' g' args c vs p σ' hF hg hgo hs hX hv;unfold aE.add at hg;split at hg
 .rename_i e;subst e;simp only[yAb]at hg;subst hg;obtain⟨N,hN⟩:=h fl args c.σ p σ' hgo;exact(BH hE hP hF N).fn (hN N (yAk _)) hs hX hv
 .exact gv
end
section
def xG(ops:Array Oper)(i:Nat):Bool:=kI ops.toList (cN ops.toList []) i
def mN(P:Program)(call:dA)(fl:Nat)(ops:Array Oper):List (Bool×Oper)->List PD->List aB->Option (List PD×List aB)
 | [],fr,σ=>some (fr,σ)
 |(free,o)::rest,fr,σ=>
  if Region.wanted o (bR ops fr)then
   match free with
   |true=>match cT P call fl fr σ o.op with
    |some (p,σ')=>mN P call fl ops rest (bE fr o.dst p) σ'
    |none=>none
   |false=>match cT P call (max fl σ.length) fr σ o.op with
    |some (p,σ')=>mN P call fl ops rest (bE fr o.dst p) (σ++σ'.drop σ.length)
    |none=>none
  else mN P call fl ops rest (bE fr o.dst (.aI [])) σ
def flags(ops:Array Oper)(i:Nat):List Oper->List (Bool×Oper)
 | []=>[]
 |o::r=>(!eM o.op||xG ops i,o)::flags ops (i+1) r
def GB(ops:Array Oper):Bool:=
 vW ops (cN ops.toList [])&&ops.toList.all (λo=>!dF o.op) &&
 (List.range ops.size).all λk=>!fA iP ops.toList k||(List.range ops.size).all λi=>!fA fB ops.toList i||!loose (cN ops.toList []) i k
section
variable{P:Program}{call:dA}{fl:Nat}{ops:Gg}
theorem aAY{fr:Gc}{σ:Gb}{op:Op}(h:iF op=true):dE P fl fr σ op=none:=by
 cases op<;>first|rfl|(simp[iF]at h;done)|(rename_i s d x;simp only[iF,yBI]at h;simp only[dE,h,yAx,yAN];done)|skip
 rename_i c;obtain⟨callee,args,ts⟩:=c;cases callee with
 |value f=>simp[iF]at h
 |invoke r m=>simp[iF]at h
 |builtin b=>cases b<;>first|rfl|(simp[iF]at h)
theorem R8{k:Nat}{free:Bool}{fr:Gc}{σ:Gb}{op:Op}(hs:(iF op||fB op||dF op||qB op||eG op)=true)(ha:dF op=false) :
  l6 P call fl free k fr σ op=(match (!eM op||free)with
   |true=>cT P call fl fr σ op
   |false=>match cT P call (max fl σ.length) fr σ op with
    |some (p,σ')=>some (p,σ++σ'.drop σ.length)
    |none=>none):=by
 unfold l6
 by_cases hA:iF op=true
 .obtain⟨hpc,_,hW,_⟩:=aAZ (fr:=fr) hA;have hM:eM op=false:=by simp[eG]at hW;exact hW.2
  rw[yAJ hA,hM];simp only[yCm,yDl];unfold cT pop;rw[hpc];simp only;cases hp:eK P fr op with
  |some p=>rfl
  |none=>
   simp only;rw[aAY hA]
 .simp only[yCw]at hA;rw[hA,ha];simp only[yAx,yAN]
  by_cases hM:eM op=true
  .rw[hM];cases free with
   |true=>simp
   |false=>
    simp only[yCm,yCn,yAL,yBJ,yDI];cases cT P call (max fl σ.length) fr σ op<;>rfl
  .simp only[yCw]at hM;rw[hM];simp only[yBa,yAx,yAN,yCm,yDl];have h3:fB op=true\/qB op=true\/iP op=true:=by
    simp only[hA,ha,eG,hM,yCc,yDI,yBR]at hs;rcases hs with(h|h)|h
    .exact .inl h
    .exact .inr (.inl h)
    .exact .inr (.inr h)
   obtain⟨hv,hp,_⟩:=JB (P:=P) (fr:=fr) h3;unfold cT pop;rw[hp,hv]
theorem aAM(h:GB ops=true)(fr:List PD)(σ:List aB):oV P call fl ops fr σ=mN P call fl ops (flags ops 0 ops.toList) fr σ:=by
 simp only[GB,yAr]at h;obtain⟨⟨hreg,hall⟩,hfeet⟩:=h;have hr:=DU hreg;have hna:∀(l:List Oper),l.all (λo=>!dF o.op)=true->nQ P l=some []:=by
  intro l
  induction l with
  |nil=>intro _;rfl
  |cons o l ih=>
   intro hl;simp only[yCv,yAr,yBI]at hl;unfold nQ;split
   .rename_i t ht;rw[ht]at hl;simp[dF]at hl
   .exact ih hl.2
 have key:∀(l:List Oper) (i k:Nat) (fr:List PD) (σ:List aB),ops.toList.drop i=l ->
   (match eW P call fl ops (cN ops.toList []) i k l fr σ with|some (_,fr',σ')=>some (fr',σ')|none=>none)=mN P call fl ops (flags ops i l) fr σ:=by
  intro l
  induction l with
  |nil=>intro i k fr σ _;rfl
  |cons o rest ih=>
   intro i k fr σ hdrop;have ho:ops[i]?=some o:=by
    exact yg
   have xR:ops.toList.drop (i+1)=rest:=by rw[<-yBD,hdrop];rfl
   have hal:dF o.op=false:=by
    have:=yAn.1 hall o (yCf.2 (yDD ho));exact cr
   simp only[eW,flags,mN];cases hw:Region.wanted o (bR ops fr)with
   |true=>
    simp only[yAL];rw[R8 (hr.shape i o ho) hal];simp only[xG];cases(!eM o.op||kI ops.toList (cN ops.toList []) i)with
    |true=>
     simp only;cases hp:cT P call fl fr σ o.op with
     |none=>rfl
     |some q=>
      obtain⟨p,σ'⟩:=q;simp only;rw[<-ih (i+1) (if dF o.op=true then k+1 else k) (bE fr o.dst p) σ' xR];cases eW P call fl ops (cN ops.toList []) (i+1) (if dF o.op=true then k+1 else k) rest (bE fr o.dst p) σ'<;>rfl
    |false=>
     simp only;cases hp:cT P call (max fl σ.length) fr σ o.op with
     |none=>rfl
     |some q=>
      obtain⟨p,σ'⟩:=q;simp only;rw[<-ih (i+1) (if dF o.op=true then k+1 else k) (bE fr o.dst p) _ xR];cases eW P call fl ops (cN ops.toList []) (i+1) (if dF o.op=true then k+1 else k) rest (bE fr o.dst p) (σ++σ'.drop σ.length)<;>rfl
   |false=>
    simp only[yAx,yAN];rw[<-ih (i+1) (if dF o.op=true then k+1 else k) (bE fr o.dst (.aI [])) σ xR];cases eW P call fl ops (cN ops.toList []) (i+1) (if dF o.op=true then k+1 else k) rest (bE fr o.dst (.aI [])) σ<;>rfl
 unfold oV;simp only[hreg,yAL,hna _ hall,yAl];rw[<-key ops.toList 0 σ.length fr σ Ai];split
 .rename_i tr fr' σ' hops;have hfo:pE ops.toList (cN ops.toList []) tr=true:=by
   simp only[pE,yAn,yAX];simp only[yAn,yAX]at hfeet;intro k hk;have h1:=hfeet k Fh;cases hs:fA iP ops.toList k with
   |false=>simp
   |true=>
    rw[hs]at h1;simp only[yBJ,yCc,yAn,yAX]at h1 ⊢;intro i hi;have h2:=h1 i Dv;simp only[yBR]at h2 ⊢;exact .inl h2
  rw[hfo,hops];rfl
 .rename_i hops;rw[hops]
end
end
def Cx.bare(c:Cx):Cx:={ w:=c.w,ρ:=λ_=>undef,σ:=[],D:=λ_=>False,X:=c.av }
theorem aAW{c:Cx}(hs:Sr c){a:Addr}(h:c.w.heap.size<=a.block):c.av a:=by
 refine⟨hs.fresh a h,λid o hd ho=>?_⟩;have key:∀b,bA (c.ρ id)=some b->a.block≠b:=λb hb e=>by
  have:=hs.lt id b hd hb;omega
 cases o with
 |none=>trivial
 |box p=>exact key
 |own e size n=>intro b hb e;exact absurd e (key b hb)
 |row e size ver ds=>exact key
 |map es=>trivial
 |mark=>trivial
 |loop st fr ps asg bd=>trivial
theorem R7{c:Cx}(a:Addr):c.bare.av a↔c.av a:=⟨λh=>h.1,λh=>⟨h,λ_ _ hd=>hd.elim⟩⟩
theorem aAX{g:Nat}{ds:Gc}(h:y8 g=some ds):PD.fH ds=true:=by
 unfold y8 at h;split at h
 .simp only[yAb]at h;subst h;rw[PD.r9];simp only[yAn,yAw]
  rintro x ⟨y,_,rfl⟩
  simp[PD.bQ]
 .exact ak
theorem Sr.bare{c:Cx}(hs:Sr c):Sr c.bare where
 box:=λ_ _ h=>h.elim
 own:=λ_ _ _ _ h=>h.elim
 row:=λ_ _ _ _ _ h=>h.elim
 map:=λ_ _ h=>h.elim
 mark:=λ_ h=>h.elim
 loop:=λ_ _ _ _ _ _ h=>h.elim
 inj:=λ_ _ _ h=>h.elim
 lt:=λ_ _ h=>h.elim
 bG:=λ_ h=>h.elim
 fresh:=λ_ h=>aAW hs h
 jQ:=⟨λg ds e=>(hs.jQ.1 g ds e).free (λa v h1 h2=>⟨(R7 a).2 h1,h2⟩) (by simpa [PD.bQ]using aAX e),λg hh=>⟨(hs.jQ.2 g hh).1,λ_ h=>h.elim⟩⟩
theorem aF.zE{P:Program}{E:aE}(hE:aF P E)(hP:P.follows .mixedOrders=true){f:FuncId}{g:List PD->Option PD}
  (h:∀args p,g args=some p->∃p1 σ1,jL P E 0 (.inl f) (args.map PD.strip) [] p1 σ1/\p1.strip=p/\PD.fH (args.map PD.strip)=true/\p.bQ=true) :
  aF P (E.add f (λ_ args σ=>match g args with|some p=>some (p,σ)|none=>none)):=by
 intro F fl f' g' args c vs p σ' hF hg hgo hs hX hv;unfold aE.add at hg;split at hg
 .rename_i e;subst e;simp only[yAb]at hg;subst hg;cases hga:g args with
  |none=>simp only[hga]at hgo;cases hgo
  |some q=>
   simp only[hga,yAb,yAc]at hgo;obtain⟨rfl,rfl⟩:=hgo;obtain⟨p1,σ1,⟨N,hN⟩,e1,e2,e3⟩:=h args q hga;have iN:aV c.bare vs (args.map PD.strip):=hv.strip.free (λa v h1 h2=>⟨(R7 a).2 h1,h2⟩) e2;have:=(BH hE hP hF N).fn (c:=c.bare) (hN N (yAk _)) hs.bare (λ_ _ h=>h.elim) iN;refine⟨this.1,λm=>yCE (this.2 m) λe w' he=>?_⟩;cases e with
   |returned v=>
    obtain⟨c1,rfl,rfl,hs1,nx,hvv,_⟩:=he;have hgr:c.w.grownBy c1.w none:=⟨nx.os,nx.tape,nx.output,nx.size,λk hk _=>nx.frame k hk (λ_ h=>h.elim)⟩;refine⟨c.at c1.w,rfl,rfl,hs.grow hgr,Nx.grow hs hgr,?_,λ_ h=>.inl h⟩;have hp:=hvv.strip;rw[e1]at hp;have hav:∀a,c1.av a->(c.at c1.w).av a:=λa h1=>by
     have h3:c1.X a:=h1.1;rw[nx.X]at h3;exact h3
    exact VR.free (c:=c1) (c':=c.at c1.w) (λa _ h1 h2=>⟨hav a h1,h2⟩) hp e3
   |panicked ch=>exact he.elim
   |outgrown=>exact he.elim
 .exact gv
section
structure Em (α:Type) where
 aA:α->PD
 inj:∀ {x y},aA x=aA y->x=y
 str:∀x,(aA x).strip=aA x
 dX:∀x,(aA x).bQ=true
structure bO (α:Type) where
 cells:α->Gc
 len:Nat
 hlen:∀x,(cells x).length=len
 inj:∀ {x y},cells x=cells y->x=y
 str:∀x,(cells x).map PD.strip=cells x
 dX:∀x,(cells x).all PD.bQ=true
section
variable{α β γ δ:Type}
open Classical in
def Em.dec(e:Em α)(p:PD):Option α:=if h:∃x,p.strip=e.aA x then some h.choose else none
theorem Em.cM{e:Em α}{p:PD}{x:α}(h:p.strip=e.aA x):e.dec p=some x:=by
 have hx:∃x,p.strip=e.aA x:=⟨x,h⟩;unfold Em.dec;rw[dif_pos hx];exact yAK some (e.inj (hx.choose_spec.symm.trans h))
theorem Em.mY{e:Em α}{p:PD}{x:α}(h:e.dec p=some x):p.strip=e.aA x:=by
 unfold Em.dec at h;split at h
 .rename_i hx;simp only[yAb]at h;subst h;exact hx.choose_spec
 .cases h
@[simp] theorem Em.aAT{e:Em α}{x:α}:e.dec (e.aA x)=some x:=Em.cM (e.str x)
def Em.int(k:IntKind):Em Int:=⟨PD.int k,λh=>Bh,λ_=>Fl,λ_=>by simp[PD.bQ]⟩
def Em.bool:Em Bool:=⟨PD.bool,λh=>Bh,λ_=>Fl,λ_=>by simp[PD.bQ]⟩
def Em.text:Em (List UInt8):=⟨PD.str,λh=>Bh,λ_=>Fl,λ_=>by simp[PD.bQ]⟩
def Em.unit:Em Unit:=⟨λ_=>.aI [],λ_=>rfl,λ_=>by simp[PD.strip,PD.lF],λ_=>by simp[PD.bQ,PD.fH]⟩
def sz(k:Nat)(xs:List α):Nat:=if xs.length=0 then 0 else k
@[simp] theorem aU0{k:Nat}{xs:List α}:(xs=[]\/k=sz k xs)=True:=by
  cases xs<;>simp[sz]
theorem s7{k:Nat}{xs:List α}(h:xs≠[]):sz k xs=k:=by
 cases xs<;>simp[sz]at *
theorem aAU{f:α->β}(hf:∀x y,f x=f y->x=y):∀(xs ys:List α),xs.map f=ys.map f->xs=ys
 | [],[],_=>rfl
 | [],_::_,h=>Br
 |_::_,[],h=>Br
 |x::xs,y::ys,h=>by
  simp only[yAS,yCb]at h;rw[hf x y h.1,aAU hf xs ys h.2]
def Em.list(e:Em α)(k:Nat):Em (List α) where
 aA:=λxs=>.slice (sz k xs) (xs.map e.aA) .any
 inj:=fun {x y} h=>by
  simp only[PD.slice.injEq,yBl]at h;exact aAU (λ_ _ h=>e.inj h) x y h.2
 str:=λxs=>by
  rw[PD.r8];have:(xs.map e.aA).map PD.strip=xs.map e.aA:=by
   rw[yBz];exact yAG λx _=>e.str x
  rw[this];cases xs<;>simp[sz]
 dX:=λxs=>by
  simp only[PD.bQ,PD.r9,yDj,List.all_map];exact yAn.2 λx _=>e.dX x
def Em.sA(a:Em α)(b:Em β):Em (α×β) where
 aA:=λx=>.aI [a.aA x.1,b.aA x.2]
 inj:=fun {x y} h=>by
  simp only[PD.aI.injEq,yCb,yBl]at h;exact yCF (a.inj h.1) (b.inj h.2)
 str:=λx=>by simp[PD.strip,PD.lF,a.str,b.str]
 dX:=λx=>by simp[PD.bQ,PD.fH,a.dX,b.dX]
def Em.R6(a:Em α)(b:Em β)(c:Em γ):Em (α×β×γ) where
 aA:=λx=>.aI [a.aA x.1,b.aA x.2.1,c.aA x.2.2]
 inj:=fun {x y} h=>by
  simp only[PD.aI.injEq,yCb,yBl]at h;exact yCF (a.inj h.1) (yCF (b.inj h.2.1) (c.inj h.2.2))
 str:=λx=>by simp[PD.strip,PD.lF,a.str,b.str,c.str]
 dX:=λx=>by simp[PD.bQ,PD.fH,a.dX,b.dX,c.dX]
def Em.aHG(a:Em α)(b:Em β)(c:Em γ)(d:Em δ):Em (α×β×γ×δ) where
 aA:=λx=>.aI [a.aA x.1,b.aA x.2.1,c.aA x.2.2.1,d.aA x.2.2.2]
 inj:=fun {x y} h=>by
  simp only[PD.aI.injEq,yCb,yBl]at h;exact yCF (a.inj h.1) (yCF (b.inj h.2.1) (yCF (c.inj h.2.2.1) (d.inj h.2.2.2)))
 str:=λx=>by simp[PD.strip,PD.lF,a.str,b.str,c.str,d.str]
 dX:=λx=>by simp[PD.bQ,PD.fH,a.dX,b.dX,c.dX,d.dX]
def bO.one(e:Em α):bO α where
 cells:=λx=>[e.aA x]
 len:=1
 hlen:=λ_=>rfl
 inj:=λh=>e.inj Bh
 str:=λx=>by simp[e.str]
 dX:=λx=>by simp[e.dX]
def bO.pair(a:bO α)(b:bO β):bO (α×β) where
 cells:=λx=>a.cells x.1++b.cells x.2
 len:=a.len+b.len
 hlen:=λ_=>by simp[a.hlen,b.hlen]
 inj:=fun {x y} h=>by
  have:=List.append_inj h (by simp[a.hlen]);exact yCF (a.inj this.1) (b.inj this.2)
 str:=λ_=>by simp only[yAH,a.str,b.str]
 dX:=λ_=>by simp only[yDH,a.dX,b.dX,yCn]
def bO.mK(a:bO β)(f:α->β)(hf:∀x y,f x=f y->x=y):bO α where
 cells:=λx=>a.cells (f x)
 len:=a.len
 hlen:=λx=>a.hlen _
 inj:=λh=>hf _ _ (a.inj h)
 str:=λx=>a.str _
 dX:=λx=>a.dX _
def Em.agg(a:bO α):Em α where
 aA:=λx=>.agg (a.cells x)
 inj:=λh=>a.inj Bh
 str:=λ_=>by simp only[PD.strip,PD.qY,a.str]
 dX:=λ_=>by simp only[PD.bQ,PD.r9,a.dX]
def Em.mK(a:Em β)(f:α->β)(hf:∀x y,f x=f y->x=y):Em α where
 aA:=λx=>a.aA (f x)
 inj:=λh=>hf _ _ (a.inj h)
 str:=λx=>a.str _
 dX:=λx=>a.dX _
@[simp] theorem aU1{k:IntKind}{n:Int}:(Em.int k).aA n=.int k n:=rfl
@[simp] theorem aU2{b:Bool}:Em.bool.aA b=.bool b:=rfl
@[simp] theorem aU3{s:Gd}:Em.text.aA s=.str s:=rfl
@[simp] theorem aU4{u:Unit}:Em.unit.aA u=.aI []:=rfl
@[simp] theorem aW{e:Em α}{k:Nat}{xs:List α}:(e.list k).aA xs=.slice (sz k xs) (xs.map e.aA) .any:=rfl
@[simp] theorem aHH{a:Em α}{b:Em β}{x:α×β}:(a.sA b).aA x=.aI [a.aA x.1,b.aA x.2]:=rfl
@[simp] theorem aU5{a:Em α}{b:Em β}{c:Em γ}{x:α×β×γ}:(a.R6 b c).aA x=.aI [a.aA x.1,b.aA x.2.1,c.aA x.2.2]:=rfl
@[simp] theorem aU6{a:Em α}{b:Em β}{c:Em γ}{d:Em δ}{x:α×β×γ×δ}:(a.aHG b c d).aA x=.aI [a.aA x.1,b.aA x.2.1,c.aA x.2.2.1,d.aA x.2.2.2]:=rfl
@[simp] theorem aU7{k:IntKind}{n:Int}:(Em.int k).dec (.int k n)=some n:=Em.cM Fl
open Classical in
def dP(c:Prop)(x:Option α):Option α:=if c then x else none
@[simp] theorem eV{c:Prop}{x:Option α}(h:c):dP c x=x:=yAJ h
theorem fG{c:Prop}{x:Option α}{y:α}(h:dP c x=some y):c/\x=some y:=by
 unfold dP at h;split at h
 .exact⟨‹_›,h⟩
 .cases h
def vP(r:Em β)(F:Option β):List PD->Option PD
 | []=>match F with|some z=>some (r.aA z)|none=>none
 |_=>none
def bZ(a:Em α)(r:Em β)(F:α->Option β):List PD->Option PD
 | [p]=>match a.dec p with
   |some x=>match F x with|some z=>some (r.aA z)|none=>none
   |none=>none
 |_=>none
def dZ(a:Em α)(b:Em β)(r:Em γ)(F:α->β->Option γ):List PD->Option PD
 | [p,q]=>match a.dec p,b.dec q with
   |some x,some y=>match F x y with|some z=>some (r.aA z)|none=>none
   |_,_=>none
 |_=>none
def vQ(a:Em α)(b:Em β)(c:Em γ)(r:Em δ)(F:α->β->γ->Option δ):List PD->Option PD
 | [p,q,s]=>match a.dec p,b.dec q,c.dec s with
   |some x,some y,some u=>match F x y u with|some z=>some (r.aA z)|none=>none
   |_,_,_=>none
 |_=>none
def entry(g:List PD->Option PD):Nat->List PD->List aB->Option (PD×List aB):=λ_ args σ=>match g args with|some p=>some (p,σ)|none=>none
variable{P:Program}{E:aE}{f:FuncId}
def aJ(P:Program)(E:aE)(f:FuncId)(args:List PD)(p:PD):Prop:=∃p1 σ1,jL P E 0 (.inl f) args [] p1 σ1/\p1.strip=p
theorem aF.lZ(hE:aF P E)(hP:P.follows .mixedOrders=true){a:Em α}{r:Em β}{F:α->Option β}(h:∀x z,F x=some z->aJ P E f [a.aA x] (r.aA z)):aF P (E.add f (entry (bZ a r F))):=by
 refine hE.zE hP λargs p hg=>?_
 match args,hg with
 | [q],hg=>
   simp only[bZ]at hg;split at hg
   .rename_i x hx;split at hg
    .rename_i z hz;simp only[yAb]at hg;subst hg;obtain⟨p1,σ1,e1,e2⟩:=h x z hz;have:=Em.mY hx;exact⟨p1,σ1,by simpa [this]using e1,e2,by simp[this,PD.fH,a.dX],r.dX z⟩
    .cases hg
   .cases hg
theorem aF.qW(hE:aF P E)(hP:P.follows .mixedOrders=true){a:Em α}{b:Em β}{r:Em γ}{F:α->β->Option γ}(h:∀x y z,F x y=some z->aJ P E f [a.aA x,b.aA y] (r.aA z)) :
  aF P (E.add f (entry (dZ a b r F))):=by
 refine hE.zE hP λargs p hg=>?_
 match args,hg with
 | [q,s],hg=>
   simp only[dZ]at hg;split at hg
   .rename_i x y hx hy;split at hg
    .rename_i z hz;simp only[yAb]at hg;subst hg;obtain⟨p1,σ1,e1,e2⟩:=h x y z hz;have h1:=Em.mY hx;have h2:=Em.mY hy;exact⟨p1,σ1,by simpa [h1,h2]using e1,e2,by simp[h1,h2,PD.fH,a.dX,b.dX],r.dX z⟩
    .cases hg
   .cases hg
theorem aF.aAV(hE:aF P E)(hP:P.follows .mixedOrders=true){a:Em α}{b:Em β}{c:Em γ}{r:Em δ}{F:α->β->γ->Option δ}
  (h:∀x y u z,F x y u=some z->aJ P E f [a.aA x,b.aA y,c.aA u] (r.aA z)):aF P (E.add f (entry (vQ a b c r F))):=by
 refine hE.zE hP λargs p hg=>?_
 match args,hg with
 | [q,s,t],hg=>
   simp only[vQ]at hg;split at hg
   .rename_i x y u hx hy hu;split at hg
    .rename_i z hz;simp only[yAb]at hg;subst hg;obtain⟨p1,σ1,e1,e2⟩:=h x y u z hz;have h1:=Em.mY hx;have h2:=Em.mY hy;have h3:=Em.mY hu;exact⟨p1,σ1,by simpa [h1,h2,h3]using e1,e2,by simp[h1,h2,h3,PD.fH,a.dX,b.dX,c.dX],r.dX z⟩
    .cases hg
   .cases hg
end
end
def pap(P:Program)(fl:Nat)(σ:List aB)(t:TypeId)(s x:PD):Option (PD×List aB):=
 match fR P 8 fl σ t s x with
 |some r=>some r
 |none=>gH P fl σ t s x.strip
def sM(P:Program)(t:TypeId)(sz:Nat):Nat->List PD->List aB->Option (PD×List aB):=λfl args σ=>match args with
 | [.slice _ [] _]=>some (.slice 0 [] .full,σ)
 | [.slice (n+1) (x::xs) tok]=>pap P fl σ t (.slice sz [] .full) (.slice (n+1) (x::xs) tok)
 | [.aR id ver off n s]=>pap P fl σ t (.slice sz [] .full) (.aR id ver off n s)
 |_=>none
theorem aQj{c:Cx}{v:Value}{n:Nat}{tok:Tok}(h:VR c v (.slice n [] tok)):VR c v (.slice n [] .jF)\/VR c v (.slice n [] .jR):=by
 obtain⟨A,cap,fl,rfl,a1,a2,a3,a4,a5,a6,a7,a8⟩:=h.oF;cases A with
 |none=>exact .inl (.slice none _ cap n [] .jF fl rfl a1 a2 a3 a4 a5 a6 a7 ⟨_,_,rfl⟩)
 |some a=>exact .inr (.slice (some a) _ cap n [] .jR fl rfl a1 a2 a3 a4 a5 a6 a7 ⟨_,_,_,rfl⟩)
theorem aQk{c:Cx}{v:Value}{n m:Nat}{tok:Tok}(h:VR c v (.slice n [] tok))(ht:∀id,tok≠.own id):VR c v (.slice m [] tok):=by
 obtain⟨A,cap,fl,rfl,a1,a2,a3,a4,a5,a6,a7,a8⟩:=h.oF;have hf:fl=[]:=yAf (by rw[a4];simp);subst hf;refine .slice A _ cap m [] tok [] rfl a1 a2 Ai Ai a5 a6 a7 ?_;cases tok with
 |own id=>exact absurd rfl (ht id)
 |_=>exact a8
theorem aFe{c:Cx}{v:Value}{p:PD}(h:VR c v p):aV c [v] [p]:=⟨rfl,λi u d h1 h2=>by
 match i with
 |0=>simp at h1 h2;subst h1;subst h2;exact h
 |i+1=>simp at h1⟩
def IA(t:TypeId):Code:=
 .seq (.region 0 #[{ dst:=some 2,op:=Op.assign (Operand.const (Value.slice none 0 0)),type:=t,pos:= "slices.go:355",after:=#[],guard:=none }] false)
  (.seq (.seq (.region 1 #[{ dst:=some 3,op:=Op.move (Operand.tmp 0),type:=t,pos:= "slices.go:357",after:=#[],guard:=none },
        { dst:=some 4,op:=Op.binOp BinOp.eql t (Operand.tmp 3) (Operand.const (Value.slice none 0 0)) t,type:=4,pos:= "slices.go:357",after:=#[{ on:=0,ground:=Ground.data }],guard:=none }] false)
    (.cond (Operand.tmp 4) (.seq (.region 2 #[{ dst:=some 2,op:=Op.assign (Operand.const (Value.slice none 0 0)),type:=t,pos:= "slices.go:358",after:=#[],guard:=none }] false) .ret) .skip))
   (.seq (.region 3 #[{ dst:=some 5,op:=Op.buildSlice t 0 #[],type:=t,pos:= "slices.go:362",after:=#[],guard:=none },
     { dst:=some 6,op:=Op.move (Operand.tmp 0),type:=t,pos:= "slices.go:362",after:=#[],guard:=none },
     { dst:=some 7,op:=Op.call { callee:=Callee.builtin Builtin.append,args:=#[Operand.tmp 5,Operand.tmp 6],argTypes:=#[t,t] },type:=t,pos:= "slices.go:362",after:=#[{ on:=0,ground:=Ground.data },{ on:=1,ground:=Ground.data }],guard:=none },
     { dst:=some 2,op:=Op.assign (Operand.tmp 7),type:=t,pos:= "slices.go:362",after:=#[{ on:=2,ground:=Ground.data },{ on:=2,ground:=Ground.chain },{ on:=0,ground:=Ground.phase },{ on:=1,ground:=Ground.phase },{ on:=2,ground:=Ground.phase }],guard:=none }] false) .ret))
theorem YV{P:Program}{E:aE}{f t sz:Nat}{e:TypeId}{fn:Func}(hE:E f=none)(hf:P.funcs[f]?=some fn)(hb:fn.body=some (IA t))(hn:fn.ntmps=8)(hr:fn.results=#[.tmp 2])(hu:P.underlying t=some (.slice e))
  (hnew:uL P t 0 []=some (.slice sz [] .full)) {fl:Nat} {σ:Gb} {s:PD} {r:PD} {σ1:Gb} (hs:gQ s=some false) (ha:pap P fl σ t (.slice sz [] .full) s=some (r,σ1)):eN P E 8 fl (.inl f) [s] σ=some (r,σ1):=by
 have h1:dW P .eql t s (.slice 0 [] .full)=none:=by
  unfold gQ at hs;split at hs
  .simp[dW,pB,lB,hu]
  .simp[dW,pB,lB,hu]
  .simp[dW,pB,lB,hu]
  .cases hs
 have h2:BI P .eql t s (.const (.slice none 0 0))=some (.bool false):=by simp[BI,hu,hs]
 have hm:dE P fl [s,.aI [],.slice 0 [] .full,s,.bool false,.slice sz [] .full,s,.aI []] σ (Op.call { callee:=Callee.builtin Builtin.append,args:=#[Operand.tmp 5,Operand.tmp 6],argTypes:=#[t,t] })=some (r,σ1):=by
  unfold pap at ha;simp only[dE,kL,aZ,yDC,List.getD_cons_zero,yAL];exact ha
 have hbs:∀fr,dE P fl fr σ (Op.buildSlice t 0 #[])=some (.slice sz [] .full,σ):=λfr=>by simp[dE,p7,hnew]
 simp[eN,qX,hE,DW,hf,hb,hn,hr,IA,iO,BM,eF,Region.wanted,cT,gP,pop,eK,j5,kL,aZ,ofValue,uN,bE,h1,h2,hbs,hm,cI,uP,xP,BJ,DR]
theorem aQl{P:Program}{E:aE}{f t:Nat}{e:TypeId}{fn:Func}(hE:E f=none)(hf:P.funcs[f]?=some fn)(hb:fn.body=some (IA t))(hn:fn.ntmps=8)(hr:fn.results=#[.tmp 2])(hu:P.underlying t=some (.slice e))
  {fl:Nat} {σ:Gb} {n:Nat}:eN P E 8 fl (.inl f) [.slice n [] .jF] σ=some (.slice 0 [] .full,σ):=by
 have h1:dW P .eql t (.slice n [] .jF) (.slice 0 [] .full)=none:=by simp[dW,pB,lB,hu]
 have h2:BI P .eql t (.slice n [] .jF) (.const (.slice none 0 0))=some (.bool true):=by simp[BI,hu,gQ]
 simp[eN,qX,hE,DW,hf,hb,hn,hr,IA,iO,BM,eF,Region.wanted,cT,gP,pop,eK,j5,kL,aZ,ofValue,uN,bE,h1,h2,cI,uP,xP,BJ,DR]
theorem aF.FH{P:Program}{E:aE}(hE:aF P E)(hP:P.follows .mixedOrders=true){f:Nat}(t sz:Nat)(e:TypeId)(AO:E f=none)(hfn:(P.funcs[f]?).map (λfn=>(fn.body,fn.ntmps,fn.results))=some (some (IA t),8,#[.tmp 2]))(hu:P.underlying t=some (.slice e))
  (hnew:uL P t 0 []=some (.slice sz [] .full)) (YW:∀fl σ n,pap P fl σ t (.slice sz [] .full) (.slice n [] .jR)=some (.slice sz [] .full,σ)) :
  aF P (E.add f (sM P t sz)):=by
 obtain⟨fn,hf,hb,hn,hr⟩:∃fn,P.funcs[f]?=some fn/\fn.body=some (IA t)/\fn.ntmps=8/\fn.results=#[.tmp 2]:=by
  cases hx:P.funcs[f]? with
  |none=>rw[hx]at hfn;cases hfn
  |some fn=>
   rw[hx]at hfn;simp only[yAC,yAb,yAc]at hfn;exact⟨fn,rfl,hfn.1,hfn.2.1,hfn.2.2⟩
 intro F fl f' g' args c vs p σ' hF hg hgo hs hX hv;unfold aE.add at hg;split at hg
 .rename_i e;subst e;simp only[yAb]at hg;subst hg;have key:=BH hE hP hF 8;unfold sM at hgo;split at hgo
  .rename_i n tok;simp only[yAb,yAc]at hgo;obtain⟨rfl,rfl⟩:=hgo
   match vs,hv.1 with
   | [v],_=>
     have iN:=hv.2 0 v _ rfl rfl;rcases aQj iN with hn' | hn'
     .exact key.fn (aQl AO hf hb hn hr hu) hs hX (aFe hn')
     .have:=key.fn (YV AO hf hb hn hr hu hnew (by rfl) (YW fl c.σ n)) hs hX (aFe hn');refine⟨this.1,λm=>yCE (this.2 m) λe w' he=>?_⟩;cases e with
      |returned v=>
       obtain⟨c1,q1,q2,q3,q4,q5,q6⟩:=he;exact⟨c1,q1,q2,q3,q4,aQk q5 (λid e=>Bj),q6⟩
      |panicked ch=>exact he.elim
      |outgrown=>exact he.elim
  .rename_i n x xs tok;exact key.fn (YV AO hf hb hn hr hu hnew (by simp[gQ]) hgo) hs hX hv
  .rename_i id ver off n s;exact key.fn (YV AO hf hb hn hr hu hnew rfl hgo) hs hX hv
  .cases hgo
 .exact gv
section
section
variable{P:Program}{E:aE}{rd:Option Nat}{fl:Nat}{fr:Gc}{ms:List Nat}{σ:Gb}{Q:PO->Prop}
structure Wp (P:Program) (E:aE) (rd:Option Nat) (c:Code) (fl:Nat) (fr:List PD) (ms:List Nat) (σ:List aB) (Q:PO->Prop):Prop where
 ex:∃r,Ev P E rd c fl fr ms σ r/\Q r
def fI(E:aE):dA
 |fl,.inl f,args,σ=>match E f with
  |some g=>g fl args σ
  |none=>none
 |_,.inr _,_,_=>none
theorem aAP{n:Nat}{tg:FuncId ⊕ Nat}{args:Gc}{x:PD×Gb}(h:fI E fl tg args σ=some x):eN P E n fl tg args σ=some x:=by
 cases tg with
 |inl f=>
  simp only[fI]at h;simp only[eN,qX];split at h
  .rename_i g hg;rw[hg];exact h
  .cases h
 |inr id=>cases h
theorem ND{n:Nat}{op:Op}{x:PD×Gb}(h:cT P (fI E) fl fr σ op=some x):cT P (eN P E n) fl fr σ op=some x:=by
 unfold cT at *;split at h
 .exact aAP h
 .exact h
theorem F8{n:Nat}{ops:Gg}:∀ {l:List Oper} {fr:Gc} {σ:Gb} {x:Gc×Gb},eF P (fI E) fl ops l fr σ=some x->eF P (eN P E n) fl ops l fr σ=some x
 | [],_,_,_,h=>h
 |o::rest,fr,σ,x,h=>by
  simp only[eF]at h ⊢;split at h
  .rename_i hw;rw[yAJ hw];split at h
   .rename_i p σ1 hp;rw[ND hp];exact F8 h
   .cases h
  .rename_i hw;rw[yAI hw];exact F8 h
theorem NF{n:Nat}{ops:Gg}:∀ {l:List (Bool×Oper)} {fr:Gc} {σ:Gb} {x:Gc×Gb},mN P (fI E) fl ops l fr σ=some x->mN P (eN P E n) fl ops l fr σ=some x
 | [],_,_,_,h=>h
 |(free,o)::rest,fr,σ,x,h=>by
  simp only[mN]at h ⊢;split at h
  .rename_i hw;rw[yAJ hw];cases free with
   |true=>
    exact oq
   |false=>
    exact oq
  .rename_i hw;rw[yAI hw];exact NF h
theorem Wp.mono{c:Code}{Q':PO->Prop}(h:Wp P E rd c fl fr ms σ Q)(k:∀r,Q r->Q' r):Wp P E rd c fl fr ms σ Q':=by
 obtain⟨r,h1,h2⟩:=h.ex;exact⟨r,h1,k r h2⟩
theorem Wp.skip(h:Q ⟨.normal,fr,ms,σ⟩):Wp P E rd .skip fl fr ms σ Q:=⟨_,.skip,h⟩
theorem Wp.ret(h:Q ⟨.ret,fr,ms,σ⟩):Wp P E rd .ret fl fr ms σ Q:=⟨_,.ret,h⟩
theorem Wp.exit{id:Nat}(h:Q ⟨.exit id,fr,ms,σ⟩):Wp P E rd (.exit id) fl fr ms σ Q:=⟨_,.exit,h⟩
structure kG (P:Program) (E:aE) (rd:Option Nat) (y:Code) (fl:Nat) (Q:PO->Prop) (r:PO):Prop where
 nx:r.x=.normal->Wp P E rd y fl r.fr r.ms r.σ Q
 out:r.x≠.normal->Q r
theorem Wp.seq{x y:Code}(h:Wp P E rd x fl fr ms σ (kG P E rd y fl Q)):Wp P E rd (.seq x y) fl fr ms σ Q:=by
 obtain⟨⟨x1,aS,ms1,σ1⟩,h1,h2⟩:=h.ex;cases x1 with
 |normal=>
  obtain⟨r2,h3,h4⟩:=(h2.nx rfl).ex;exact⟨r2,.seq h1 h3,h4⟩
 |ret=>exact⟨_,.aAQ h1 Ai,h2.out Ai⟩
 |exit k=>exact⟨_,.aAQ h1 Ai,h2.out Ai⟩
theorem kG.normal{y:Code}(h:Wp P E rd y fl fr ms σ Q):kG P E rd y fl Q ⟨.normal,fr,ms,σ⟩:=⟨λ_=>h,λe=>absurd rfl e⟩
theorem kG.ret{y:Code}(h:Q ⟨.ret,fr,ms,σ⟩):kG P E rd y fl Q ⟨.ret,fr,ms,σ⟩:=⟨λe=>Bj,λ_=>h⟩
theorem kG.exit{y:Code}{k:Nat}(h:Q ⟨.exit k,fr,ms,σ⟩):kG P E rd y fl Q ⟨.exit k,fr,ms,σ⟩:=⟨λe=>Bj,λ_=>h⟩
theorem Wp.cond{g:Operand}{x y:Code}{b:Bool}(hg:aZ fr g=some (.bool b))(h1:b=true->Wp P E rd x fl fr ms σ Q)(h2:b=false->Wp P E rd y fl fr ms σ Q):Wp P E rd (.cond g x y) fl fr ms σ Q:=by
 cases b with
 |true=>obtain⟨r,e1,e2⟩:=(h1 rfl).ex;exact⟨r,.cond hg e1,e2⟩
 |false=>obtain⟨r,e1,e2⟩:=(h2 rfl).ex;exact⟨r,.cond hg e1,e2⟩
theorem Wp.cond_true{g:Operand}{x y:Code}(hg:aZ fr g=some (.bool true))(h1:Wp P E rd x fl fr ms σ Q):Wp P E rd (.cond g x y) fl fr ms σ Q:=.cond hg (λ_=>h1) (λh=>Ap)
theorem Wp.cond_false{g:Operand}{x y:Code}(hg:aZ fr g=some (.bool false))(h1:Wp P E rd y fl fr ms σ Q):Wp P E rd (.cond g x y) fl fr ms σ Q:=.cond hg (λh=>Ap) (λ_=>h1)
structure pZ (id:Nat) (Q:PO->Prop) (r:PO):Prop where
 out:∀k,r.x=.exit k->Q ⟨if k=id then .normal else .exit k,r.fr,r.ms,r.σ⟩
 on:(∀k,r.x≠.exit k)->Q r
theorem Wp.block{id:Nat}{b:Code}(h:Wp P E rd b fl fr ms σ (pZ id Q)):Wp P E rd (.block id b) fl fr ms σ Q:=by
 obtain⟨⟨x1,aS,ms1,σ1⟩,h1,h2⟩:=h.ex;cases x1 with
 |normal=>exact⟨_,.aAR h1 Ai,h2.on Ai⟩
 |ret=>exact⟨_,.aAR h1 Ai,h2.on Ai⟩
 |exit k=>exact⟨_,.block h1,h2.out k rfl⟩
theorem pZ.normal{id:Nat}(h:Q ⟨.normal,fr,ms,σ⟩):pZ id Q ⟨.normal,fr,ms,σ⟩:=⟨λ_ e=>Bj,λ_=>h⟩
theorem pZ.ret{id:Nat}(h:Q ⟨.ret,fr,ms,σ⟩):pZ id Q ⟨.ret,fr,ms,σ⟩:=⟨λ_ e=>Bj,λ_=>h⟩
theorem pZ.here{id:Nat}(h:Q ⟨.normal,fr,ms,σ⟩):pZ id Q ⟨.exit id,fr,ms,σ⟩:=
 ⟨λk e=>by simp only[PX.exit.injEq]at e;subst e;rw[yAJ rfl];exact h,λe=>absurd rfl (e id)⟩
structure uI (P:Program) (E:aE) (rd:Option Nat) (b:Code) (fl:Nat) (Q:PO->Prop) (r:PO):Prop where
 nx:r.x=.normal->Wp P E rd (.loop b) fl r.fr r.ms r.σ Q
 out:r.x≠.normal->Q r
theorem Wp.loop{b:Code}(h:Wp P E rd b fl fr ms σ (uI P E rd b fl Q)):Wp P E rd (.loop b) fl fr ms σ Q:=by
 obtain⟨⟨x1,aS,ms1,σ1⟩,h1,h2⟩:=h.ex;cases x1 with
 |normal=>
  obtain⟨r2,h3,h4⟩:=(h2.nx rfl).ex;exact⟨r2,.loop h1 h3,h4⟩
 |ret=>exact⟨_,.aAS h1 Ai,h2.out Ai⟩
 |exit k=>exact⟨_,.aAS h1 Ai,h2.out Ai⟩
theorem uI.normal{b:Code}(h:Wp P E rd (.loop b) fl fr ms σ Q):uI P E rd b fl Q ⟨.normal,fr,ms,σ⟩:=⟨λ_=>h,λe=>absurd rfl e⟩
theorem uI.exit{b:Code}{k:Nat}(h:Q ⟨.exit k,fr,ms,σ⟩):uI P E rd b fl Q ⟨.exit k,fr,ms,σ⟩:=⟨λe=>Bj,λ_=>h⟩
theorem Wp.region{id:Nat}{ops:Gg}{aS:Gc}{σ1:Gb}(h:eF P (fI E) fl ops ops.toList fr σ=some (aS,σ1))(k:Q ⟨.normal,aS,ms,σ1⟩):Wp P E rd (.region id ops false) fl fr ms σ Q:=
 ⟨_,.region (N:=0) (λ_ _=>F8 h),k⟩
theorem Wp.draw{id:Nat}{ops:Gg}{aS:Gc}{σ1:Gb}(hs:GB ops=true)(h:mN P (fI E) fl ops (flags ops 0 ops.toList) fr σ=some (aS,σ1))(k:Q ⟨.normal,aS,ms,σ1⟩) :
  Wp P E rd (.region id ops true) fl fr ms σ Q:=
 ⟨_,.draw (N:=0) (λ_ _=>by rw[aAM hs];exact NF h),k⟩
theorem aJ.body{f:FuncId}{fn:Func}{c:Code}{args:Gc}{p:PD}(hE:E f=none)(hf:P.funcs[f]?=some fn)(hb:fn.body=some c)
  (h:Wp P E none c 0 (args++List.replicate (fn.ntmps-args.length) (.aI [])) [] [] (λr=>∃p1 σ1,cI P 0 fn r=some (p1,σ1)/\p1.strip=p)):aJ P E f args p:=by
 exact uy
end
theorem wrap_i64{x:Int}(h:-9223372036854775808<=x)(h':x<=9223372036854775807):IntKind.i64.wrap x=x:=by
 simp[IntKind.wrap,IntKind.min,IntKind.max,IntKind.signed,IntKind.bits]
 try omega
theorem wrap_u64:True:=trivial
end
section
attribute [simp] eF mN flags Region.wanted bR cT gP pop eK p6 aZ bE kL j5 ofValue uN uO eM PD.cells fI p7 GC
attribute [simp] PD.plain PD.setCells dG F5 fQ cI uP xP BJ DR BF F6 GD xQ I9 DS
attribute [simp] PD.strip PD.lF F7 s9 I7 I6 DT
@[simp] theorem qY{α:Type}{e:Em α}{xs:List α}:PD.lF (xs.map e.aA)=xs.map e.aA:=by
  rw[PD.qY,yBz];exact yAG λx _=>e.str x
@[simp] theorem aTO{α:Type}{e:Em α}{k:Nat}{xs:List α}{tok:Tok}:(PD.slice k (xs.map e.aA) tok).strip=.slice (sz k xs) (xs.map e.aA) .any:=by
  cases xs with
  |nil=>simp[PD.strip,sz]
  |cons x xs=>simp[PD.strip,sz,e.str]
section
variable{P:Program}{t:TypeId}{k k':IntKind}{a b:Int}{op:BinOp}
@[simp] theorem aTP:dW P .add t (.int k a) (.int k' b)=if k=k' then iE .add k a b else none:=rfl
@[simp] theorem aTQ:dW P .sub t (.int k a) (.int k' b)=if k=k' then iE .sub k a b else none:=rfl
@[simp] theorem aTR:dW P .mul t (.int k a) (.int k' b)=if k=k' then iE .mul k a b else none:=rfl
@[simp] theorem aTS:dW P .quo t (.int k a) (.int k' b)=if k=k' then iE .quo k a b else none:=rfl
@[simp] theorem aTT:dW P .rem t (.int k a) (.int k' b)=if k=k' then iE .rem k a b else none:=rfl
@[simp] theorem aTU:dW P .eql t (.int k a) (.int k' b)=if k=k' then iE .eql k a b else none:=rfl
@[simp] theorem aTV:dW P .neq t (.int k a) (.int k' b)=if k=k' then iE .neq k a b else none:=rfl
@[simp] theorem aTW:dW P .lss t (.int k a) (.int k' b)=if k=k' then iE .lss k a b else none:=rfl
@[simp] theorem aTX:dW P .leq t (.int k a) (.int k' b)=if k=k' then iE .leq k a b else none:=rfl
@[simp] theorem aTY:dW P .gtr t (.int k a) (.int k' b)=if k=k' then iE .gtr k a b else none:=rfl
@[simp] theorem aTZ:dW P .geq t (.int k a) (.int k' b)=if k=k' then iE .geq k a b else none:=rfl
@[simp] theorem aT0:dW P .and t (.int k a) (.int k' b)=if k=k' then iE .and k a b else none:=rfl
@[simp] theorem aT1:dW P .or t (.int k a) (.int k' b)=if k=k' then iE .or k a b else none:=rfl
@[simp] theorem aT2:dW P .xor t (.int k a) (.int k' b)=if k=k' then iE .xor k a b else none:=rfl
@[simp] theorem aT3:dW P .andNot t (.int k a) (.int k' b)=if k=k' then iE .andNot k a b else none:=rfl
@[simp] theorem aT4:dW P .shl t (.int k a) (.int k' b)=JA .shl k a b:=rfl
@[simp] theorem aT5:dW P .shr t (.int k a) (.int k' b)=JA .shr k a b:=rfl
@[simp] theorem aT6{x y:Gd}:dW P op t (.str x) (.str y)=I9 op x y:=rfl
theorem aHC{x y:PD}{c:Bool}(h1:∀k a k' b,¬(x=.int k a/\y=.int k' b))(h2:∀a b,¬(x=.str a/\y=.str b))(h:lB P 12 t x y=some c)(h3:∀xs ys,¬(x=.agg xs/\y=.agg ys)):dW P .eql t x y=some (.bool c):=by
 exact ek
theorem aHD{x y:PD}{c:Bool}(h1:∀k a k' b,¬(x=.int k a/\y=.int k' b))(h2:∀a b,¬(x=.str a/\y=.str b))(h:lB P 12 t x y=some c)(h3:∀xs ys,¬(x=.agg xs/\y=.agg ys)):dW P .neq t x y=some (.bool (!c)):=by
 exact ek
@[simp] theorem aT7{x y:Bool}(hu:P.underlying t=some .bool):dW P .eql t (.bool x) (.bool y)=some (.bool (decide (x=y))):=
  aHC Ai Ai Fo Ai
@[simp] theorem aT8{x y:Bool}(hu:P.underlying t=some .bool):dW P .neq t (.bool x) (.bool y)=some (.bool (!decide (x=y))):=
  aHD Ai Ai Fo Ai
section
variable{e:TypeId}{i o:Nat}{cs:Gc}
end
end
section
variable{k:IntKind}{x y:Int}
@[simp] theorem aT9:iE .add k x y=some (.int k (k.wrap (x+y))):=rfl
@[simp] theorem aUa:iE .sub k x y=some (.int k (k.wrap (x-y))):=rfl
@[simp] theorem aUb:iE .mul k x y=some (.int k (k.wrap (x*y))):=rfl
@[simp] theorem aUc:iE .quo k x y=if y=0 then none else some (.int k (k.wrap (x.tdiv y))):=rfl
@[simp] theorem aUd:iE .rem k x y=if y=0 then none else some (.int k (x.tmod y)):=rfl
@[simp] theorem aUe:iE .eql k x y=some (.bool (decide (x=y))):=rfl
@[simp] theorem aUf:iE .neq k x y=some (.bool (!decide (x=y))):=rfl
@[simp] theorem aUg:iE .lss k x y=some (.bool (decide (x<y))):=rfl
@[simp] theorem aUh:iE .leq k x y=some (.bool (decide (x<=y))):=rfl
@[simp] theorem aUi:iE .gtr k x y=some (.bool (decide (x > y))):=rfl
@[simp] theorem aUj:iE .geq k x y=some (.bool (decide (x >= y))):=rfl
@[simp] theorem aUk:iE .and k x y=(match BK .and k x y with|some z=>some (.int k z)|none=>none):=rfl
@[simp] theorem aUl:iE .or k x y=(match BK .or k x y with|some z=>some (.int k z)|none=>none):=rfl
@[simp] theorem aUm:iE .xor k x y=(match BK .xor k x y with|some z=>some (.int k z)|none=>none):=rfl
@[simp] theorem aUn:iE .andNot k x y=(match BK .andNot k x y with|some z=>some (.int k z)|none=>none):=rfl
end
section
variable{P:Program}{fl:Nat}{fr:Gc}{σ:Gb}
@[simp] theorem aUo{t:TypeId}{x:Operand}:dE P fl fr σ (.load t x)=(match aZ fr x with
  |some a=>(match p6 P σ t a with|some p=>some (p,σ)|none=>none)
  |none=>none):=rfl
@[simp] theorem aUp{t:TypeId}{x y:Operand}:dE P fl fr σ (.store t x y)=(match aZ fr x,aZ fr y with
  |some a,some p=>(match s9 P fl σ t a p with|some σ'=>some (.aI [],σ')|none=>none)
  |_,_=>none):=rfl
@[simp] theorem aUq{t:TypeId}{x:Operand}:dE P fl fr σ (.box t x)=(match aZ fr x with
  |some p=>if p.cells.all PD.plain then some (.ptr σ.length 0,σ++[.box p])else none
  |none=>none):=rfl
@[simp] theorem aUr{t:TypeId}{cs:Gc}:boxed t (.agg cs)=if M9 t=true then .typed t (cs.map vX)else .agg cs:=rfl
@[simp] theorem aUs:vX (.slice 0 [] .full)=.slice 0 [] .nil:=rfl
@[simp] theorem aUt:vX .gR=.gR:=rfl
@[simp] theorem aUu{k:IntKind}{n:Int}:vX (.int k n)=.int k n:=rfl
@[simp] theorem aUv{s:Gd}:vX (.str s)=.str s:=rfl
@[simp] theorem aUw{t:TypeId}{k:IntKind}{n:Int}:boxed t (.int k n)=.int k n:=rfl
@[simp] theorem aUx{t:TypeId}{b:Bool}:boxed t (.bool b)=.bool b:=rfl
@[simp] theorem aUy{t:TypeId}{s:Gd}:boxed t (.str s)=.str s:=rfl
@[simp] theorem aUz{t:TypeId}{n:Nat}{xs:Gc}{tok:Tok}:boxed t (.slice n xs tok)=.slice n xs tok:=rfl
@[simp] theorem aUA{t:TypeId}:boxed t .gR=.gR:=rfl
@[simp] theorem aUB{t:TypeId}:boxed t .iX=.iX:=rfl
@[simp] theorem aUC{t:TypeId}{v:Value}:boxed t (.fT v)=.fT v:=rfl
@[simp] theorem aUD{t:TypeId}:dE P fl fr σ (.alloc t)=(match eR P t with
  |some p=>if p.cells.all PD.plain then some (.ptr σ.length 0,σ++[.box (boxed t p)])else none
  |none=>none):=rfl
@[simp] theorem aUE{t:TypeId}{len:Nat}{parts:Array (Nat×Operand)}:dE P fl fr σ (.buildSlice t len parts)=(match p7 fr parts.toList with
  |some ps=>(match uL P t len (ps.map λq=>(q.1,q.2.strip))with|some p=>some (p,σ)|none=>none)
  |none=>none):=rfl
@[simp] theorem aUF{args:Array Operand}{ts:Array TypeId}:dE P fl fr σ (.call { callee:=.builtin .append,args:=args,argTypes:=ts })=(match kL fr args.toList,ts.toList with
  |some [s,x],[t,t']=>if t=t' then(match fR P fr.length fl σ t s x with|some r=>some r|none=>gH P fl σ t s x.strip)else(match P.underlying t',x with
   |some .string,.str l=>if NA P t=true then(gH P fl σ t s (.slice (if l.length=0 then 0 else 1) (l.map λb=>.int .u8 b.toNat) .any))else none
   |some (.int .i64),.int .i64 m=>NB P fr.length σ t s m
   |_,_=>none)
  |_,_=>none):=rfl
def lH(n:Nat):PD->Int->Option PD
 |.slice size xs _,i=>if 0<=i then(if (xs.length=0\/n=size)/\0<n then(match xs[i.toNat]? with|some p=>some (.eO p.cells 0)|none=>none)else none)else none
 |.dJ id off m size,i=>if 0<=i then(if n=size/\i.toNat<m then some (.ptr id (off+i.toNat*n))else none)else none
 |.aR id ver off m size,i=>if 0<=i then(if n=size/\i.toNat<m then some (.dH id ver (off+i.toNat*n))else none)else none
 |_,_=>none
def R0(len n:Nat)(x:PD)(i:Int):Option PD:=
 if 0<=i then(if i.toNat<len then(match x with
  |.ptr id off=>some (.ptr id (off+i.toNat*n))
  |.eO cs off=>some (.eO cs (off+i.toNat*n))
  |.dH id ver off=>some (.dH id ver (off+i.toNat*n))
  |_=>none)else none)else none
@[simp] theorem aUG{t:TypeId}{x:PD}{k:IntKind}{i:Int}:jZ P t x (.int k i)=(match P.underlying t with
  |some (.array len e)=>(match cH P e with|some n=>R0 len n x i|none=>none)
  |some (.slice e)=>(match cH P e with|some n=>lH n x i|none=>none)
  |_=>none):=by
  unfold jZ
  by_cases h0:0<=i
  .cases hu:P.underlying t with
   |none=>simp[h0]
   |some d=>
    cases d<;>simp only[gU,h0,yAL,R0]<;>try rfl
    rename_i e;cases cH P e<;>cases x<;>simp only[lH,h0,yAL]<;>rfl
  .cases hu:P.underlying t with
   |none=>simp[h0]
   |some d=>
    cases d<;>simp only[gU,h0,yAN,R0]<;>try rfl
    all_goals (rename_i e;cases cH P e<;>cases x<;>simp only[lH,h0,yAN])
@[simp] theorem aUH{n size:Nat}{xs:Gc}{tok:Tok}{i:Int}(h0:0<=i)(hn0:0<n)(hs:xs=[]\/n=size)(hi:i.toNat<xs.length):lH n (.slice size xs tok) i=some (.eO xs[i.toNat].cells 0):=by
  have hx:xs.length=0\/n=size:=hs.imp (λh=>Bu) (λh=>h);simp only[lH,h0,hx,hn0,yBy,yAL,yAh hi]
@[simp] theorem aUI{n id off m:Nat}{i:Int}(h0:0<=i)(hi:i.toNat<m):lH n (.dJ id off m n) i=some (.ptr id (off+i.toNat*n)):=by
  simp only[lH,h0,hi,yBy,yAL]
def NC(s:List UInt8)(i:Int):Option PD:=if 0<=i then(match s[i.toNat]? with|some b=>some (.int .u8 b.toNat)|none=>none)else none
@[simp] theorem aUJ{s:Gd}{i:Int}(h0:0<=i)(hi:i.toNat<s.length):NC s i=some (.int .u8 s[i.toNat].toNat):=by
  unfold NC;rw[yAJ h0,yAh hi]
@[simp] theorem aUK{t:TypeId}{s:Gd}{k:IntKind}{i:Int}:zL P t (.str s) (.int k i)=(match P.underlying t with
  |some .string=>NC s i
  |_=>none):=by
  unfold zL NC
  by_cases h0:0<=i
  .cases hu:P.underlying t with
   |none=>simp[h0]
   |some d=>cases d<;>simp only[gU,h0,yAL]<;>rfl
  .cases hu:P.underlying t with
   |none=>simp[h0]
   |some d=>cases d<;>simp only[gU,h0,yAN]<;>try rfl
@[simp] theorem aUL{t:TypeId}{cs:Gc}{k:IntKind}{i:Int}:zL P t (.agg cs) (.int k i)=(match P.underlying t with
  |some (.array len e)=>(match cH P e with
   |some n=>if 0<=i then(if i.toNat<len then nP P e cs (i.toNat*n)else none)else none
   |none=>none)
  |_=>none):=by
  unfold zL
  by_cases h0:0<=i
  .cases hu:P.underlying t with
   |none=>simp[gU,h0]
   |some d=>cases d<;>simp only[gU,h0,yAL]<;>rfl
  .cases hu:P.underlying t with
   |none=>simp[gU,h0]
   |some d=>
    cases d<;>simp only[gU,h0,yAN]<;>try rfl
    cases cH P _<;>rfl
@[simp] theorem aUM{k:IntKind}{i:Int}(h:0<=i):gU (some (.int k i))=some i.toNat:=by simp only[gU,h,yAL]
def BL(n l h:Nat):Option (Nat×Nat):=if l<=h/\h<=n then some (l,h)else none
@[simp] theorem aUN{n l h:Nat}(h1:l<=h)(h2:h<=n):BL n l h=some (l,h):=by simp[BL,h1,h2]
@[simp] theorem aUO{n:Nat}{x:Option PD}:mP n (some x) none=(match gU x with|some l=>BL n l n|none=>none):=by
  simp only[mP,BL];cases gU x<;>rfl
@[simp] theorem aUP{n:Nat}{x:Option PD}:mP n none (some x)=(match gU x with|some h=>BL n 0 h|none=>none):=by
  simp only[mP,BL];cases gU x<;>rfl
@[simp] theorem aUQ{n:Nat}{x y:Option PD}:mP n (some x) (some y)=(match gU y,gU x with|some h,some l=>BL n l h|_,_=>none):=by
  simp only[mP,BL];cases gU x<;>cases gU y<;>rfl
def GF(n size:Nat)(xs:List PD)(tok:Tok)(lh:Option (Nat×Nat)):Option PD:=
 match lh with
 |some (l,h)=>if xs.length=0\/n=size then some (.slice size ((xs.drop l).take (h-l))
      (if h=xs.length then(match tok with|.full=>.full|.own id=>if l=0 then .own id else .any|_=>.any)else .any))else none
 |none=>none
def R3(s:List UInt8)(lh:Option (Nat×Nat)):Option PD:=
 match lh with
 |some (l,h)=>some (.str ((s.drop l).take (h-l)))
 |none=>none
@[simp] theorem aUR{n size l h:Nat}{xs:Gc}(hs:xs=[]\/n=size):GF n size xs .any (some (l,h))=some (.slice size ((xs.drop l).take (h-l)) .any):=by
  have hx:xs.length=0\/n=size:=hs.imp (λh=>Bu) (λh=>h);simp only[GF,hx,yAL,ite_self]
@[simp] theorem aUS{s:Gd}{l h:Nat}:R3 s (some (l,h))=some (.str ((s.drop l).take (h-l))):=rfl
@[simp] theorem aUT{t:TypeId}{s:Gd}{lo hi:Option (Option PD)}:s8 P t (.str s) lo hi none=(match P.underlying t with
  |some .string=>R3 s (mP s.length lo hi)
  |_=>none):=by
  unfold s8 R3;cases hu:P.underlying t with
  |none=>rfl
  |some d=>cases d<;>simp only[Option.isSome_none,yAx,yAN]<;>rfl
@[simp] theorem aUU{t:TypeId}{size:Nat}{xs:Gc}{tok:Tok}{lo hi:Option (Option PD)}:s8 P t (.slice size xs tok) lo hi none=(match P.underlying t with
  |some (.slice e)=>(match cH P e with|some n=>GF n size xs tok (mP xs.length lo hi)|none=>none)
  |_=>none):=by
  unfold s8 GF;cases hu:P.underlying t with
  |none=>rfl
  |some d=>
   cases d<;>simp only<;>try rfl
   cases cH P _<;>simp only
   cases mP xs.length lo hi<;>simp only
   split<;>rfl
@[simp] theorem aUV{t:TypeId}{id off m size:Nat}{lo hi:Option (Option PD)}:s8 P t (.dJ id off m size) lo hi none=(match P.underlying t with
  |some (.slice e)=>(match cH P e with|some n=>(match mP m lo hi with|some (l,h)=>if n=size/\(l=0\/l<m)then some (.dJ id (off+l*n) (h-l) n)else none|none=>none)|none=>none)
  |_=>none):=by
  unfold s8;cases hu:P.underlying t with
  |none=>rfl
  |some d=>
   cases d<;>simp only<;>try rfl
   cases cH P _<;>simp only
   cases mP m lo hi<;>simp only
end
section
variable{α:Type}
def St(B:List aB)(e:TypeId)(k n:Nat):List aB:=B++(if n=0 then []else [.own e k n])
def jM(id n:Nat):Tok:=if n=0 then .full else .own id
@[simp] theorem R4{B:Gb}{e:TypeId}{k n i:Nat}(h:i<B.length):(St B e k n)[i]?=B[i]?:=by
  unfold St;rw[yAg h]
@[simp] theorem aUW{B:Gb}{e:TypeId}{k n i:Nat}{o:aB}(h:i<B.length):(St B e k n).set i o=St (B.set i o) e k n:=by
  unfold St;rw[yDZ _ _ h]
@[simp] theorem aUX{B:Gb}{e:TypeId}{k:Nat}:St B e k 0=B:=by simp[St]
@[simp] theorem aUY{id:Nat}:jM id 0=.full:=rfl
theorem aHE{P:Program}{fl:Nat}{B:Gb}{t e:TypeId}{i:TypeInfo}{z:Value}{n s:Nat}{xs:Gc}{p:PD}{tk:Tok}(hu:P.underlying t=some (.slice e))(hi:P.info? e=some i)(hz:i.zero=some z)(hzs:z.cells.size=i.size)
  (h0:0<i.size) (hs:xs=[]\/s=i.size) (hn:xs.length=n) (hfl:fl<=B.length) (hm:xs.length+1<=maxLen) (hb:(xs.length+1)*i.bytes<=140737488355328) :
  gH P fl (St B e i.size n) t (.slice s xs (jM B.length n)) (.slice i.size [p] tk)=some (.slice i.size (xs++[p]) (jM B.length (n+1)),St B e i.size (n+1)):=by
 subst hn;have hs':xs.length=0\/s=i.size:=hs.imp (λh=>Bu) (λh=>h);have h1:[p].length=1:=rfl;simp only[gH,hu,hi,hz,h1,hs',h0,hzs,hm,hb,yCa,yBy,yAL,yDE,yAN];cases xs with
 |nil=>simp[jM,St]
 |cons x xs=>
  have hs2:s=i.size:=by simpa using hs
  subst hs2;simp[jM,St,hfl]
def iM(P:Program)(e:TypeId):Option (Nat×Nat):=match P.info? e with
 |some i=>match i.zero with
  |some z=>if z.cells.size=i.size/\0<i.size then some (i.size,i.bytes)else none
  |none=>none
 |none=>none
theorem aHF{P:Program}{fl:Nat}{B:Gb}{t e:TypeId}{k b n s id:Nat}{xs:Gc}{p:PD}{tk:Tok}(hu:P.underlying t=some (.slice e))(hi:iM P e=some (k,b))
  (hs:xs=[]\/s=k) (hn:xs.length=n) (hid:id=B.length) (hfl:fl<=B.length) (hm:xs.length+1<=maxLen) (hb:(xs.length+1)*b<=140737488355328) :
  gH P fl (St B e k n) t (.slice s xs (jM id n)) (.slice k [p] tk)=some (.slice k (xs++[p]) (jM id (n+1)),St B e k (n+1)):=by
 unfold iM at hi;split at hi
 .rename_i i h1;split at hi
  .rename_i z h2;split at hi
   .rename_i h3;simp only[yAb,yAc]at hi;obtain⟨rfl,rfl⟩:=hi;subst hid;exact aHE hu h1 h2 h3.1 h3.2 hs hn hfl hm hb
   .cases hi
  .cases hi
 .cases hi
attribute [simp] nP
def R5(P:Program)(e:TypeId)(k n:Nat):Prop:=match iM P e with
 |some (k',b)=>k'=k/\n*b<=140737488355328
 |none=>False
attribute [simp] R5
@[simp] theorem aUZ{P:Program}{fl:Nat}{B:Gb}{t e:TypeId}{k n s id:Nat}{xs:Gc}{p:PD}{tk:Tok}(hu:P.underlying t=some (.slice e))(hi:R5 P e k (xs.length+1))
  (hs:xs=[]\/s=k) (hn:n=xs.length) (hid:id=B.length) (hfl:fl<=B.length) (hm:xs.length+1<=100000000000000) :
  gH P fl (St B e k n) t (.slice s xs (jM id n)) (.slice k [p] tk)=some (.slice k (xs++[p]) (jM id (n+1)),St B e k (n+1)):=by
  unfold R5 at hi;split at hi
  .rename_i k' b h1;obtain⟨rfl,h2⟩:=hi;exact aHF hu h1 hs hn.symm hid hfl Ay h2
  .cases hi
attribute [simp] uL
end
end
section
section
variable{P:Program}{E:aE}{rd:Option Nat}{fl:Nat}{fr:Gc}{ms:List Nat}{σ:Gb}{Q:PO->Prop}{ops:Gg}
structure aL (P:Program) (E:aE) (fl:Nat) (f:FuncId ⊕ Nat) (args:List PD) (σ:List aB) (R:PD->List aB->Prop):Prop where
 ex:∃p σ',jL P E fl f args σ p σ'/\R p σ'
theorem aL.mono{f:FuncId ⊕ Nat}{args:Gc}{R R':PD->List aB->Prop}(h:aL P E fl f args σ R)(k:∀p σ',R p σ'->R' p σ'):aL P E fl f args σ R':=by
 obtain⟨p,σ',h1,h2⟩:=h.ex;exact⟨p,σ',h1,k _ _ h2⟩
theorem aL.of{f:FuncId ⊕ Nat}{args:Gc}{R:PD->List aB->Prop}{p:PD}{σ':Gb}(h:jL P E fl f args σ p σ')(k:R p σ'):aL P E fl f args σ R:=⟨p,σ',h,k⟩
structure M6 (P:Program) (E:aE) (fl:Nat) (ops:Array Oper) (l:List (Bool×Oper)) (fr:List PD) (σ:List aB) (R:List PD->List aB->Prop):Prop where
 ex:∃N fr' σ',(∀n,N<=n->mN P (eN P E n) fl ops l fr σ=some (fr',σ'))/\R fr' σ'
theorem M5{call:dA}:∀(l:List Oper) (fr:List PD) (σ:List aB),eF P call fl ops l fr σ=mN P call fl ops (l.map λo=>(true,o)) fr σ
 | [],_,_=>rfl
 |o::l,fr,σ=>by
  simp only[eF,mN,yAS];split
  .cases cT P call fl fr σ o.op with
   |none=>rfl
   |some q=>obtain⟨p,σ'⟩:=q;simp only;exact M5 l _ _
  .exact M5 l _ _
theorem Wp.aHw{id:Nat}(h:M6 P E fl ops (ops.toList.map λo=>(true,o)) fr σ (λfr' σ'=>Q ⟨.normal,fr',ms,σ'⟩)):Wp P E rd (.region id ops false) fl fr ms σ Q:=by
 obtain⟨N,fr',σ',h1,h2⟩:=h.ex;exact⟨_,.region (N:=N) (λn hn=>by rw[M5];exact h1 n hn),h2⟩
theorem aL.round{id:Nat}{args:Gc}{R:PD->List aB->Prop}{fS:Gc}{ps:List Tmp}{assign body:Code}(hfl:fl<=id)(h0:σ[id]?=some (.loop .ready fS ps assign body))(hl:args.length=ps.length)
  (h:Wp P E (some id) assign fl (uM fS ps args) [] σ (λr=>r.x=.normal/\∃aS RW RX RY,r.σ[id]?=some (.loop .ready aS RW RX RY) /\
   Wp P E (some id) body fl r.fr r.ms (r.σ.set id (.loop .busy aS RW RX RY)) (λr2=>∃xL vV xM xN,r2.σ[id]?=some (.loop .busy xL vV xM xN) /\
    (match r2.x with
     |.normal=>R (.bool true) (r2.σ.set id (.loop .ready xL vV xM xN))
     |.ret=>R (.bool false) (r2.σ.set id (.loop (.done .ret) xL vV xM xN))
     |.exit k=>R (.bool false) (r2.σ.set id (.loop (.done (.exit k)) xL vV xM xN)))))):aL P E fl (.inr id) args σ R:=by
 obtain⟨⟨x1,f1,m1,s1⟩,⟨N,h1⟩,h2,aS,RW,RX,RY,h3,h4⟩:=h.ex;simp only at h2 h3 h4;subst h2;obtain⟨⟨x2,f2,m2,s2⟩,⟨M,h5⟩,xL,vV,xM,xN,h6,h7⟩:=h4.ex;simp only at h6 h7;cases x2<;>refine⟨_,_,⟨max N M,λn hn=>?_⟩,h7⟩<;>simp only[eN,qX,F9,hfl,yAL,h0,hl,h1 n Ah,h3,h5 n Ah,h6]
inductive qA (P:Program) (E:aE) (fl id:Nat) (K:List aB->Prop):List (List PD)->List aB->List aB->Prop
 |nil {σ:Gb}:K σ->qA P E fl id K [] σ σ
 |more {a:Gc} {rest:Fz} {σ σ1 σ2:Gb}:K σ->jL P E fl (.inr id) a σ (.bool true) σ1->qA P E fl id K rest σ1 σ2->qA P E fl id K (a::rest) σ σ2
 |stop {a:Gc} {rest:Fz} {σ σ1:Gb}:K σ->jL P E fl (.inr id) a σ (.bool false) σ1->qA P E fl id K (a::rest) σ σ1
structure tA (P:Program) (E:aE) (fl id:Nat) (K:List aB->Prop) (items:List (List PD)) (σ:List aB) (R:List aB->Prop):Prop where
 ex:∃σ2,qA P E fl id K items σ σ2/\R σ2
theorem tA.nil{id:Nat}{K R:List aB->Prop}(h:K σ)(k:R σ):tA P E fl id K [] σ R:=⟨σ,.nil h,k⟩
theorem tA.cons{id:Nat}{K R:List aB->Prop}{a:Gc}{rest:Fz}(h:K σ)(k:aL P E fl (.inr id) a σ (λp σ1=>(p=.bool true/\tA P E fl id K rest σ1 R)\/(p=.bool false/\R σ1))):tA P E fl id K (a::rest) σ R:=by
 obtain⟨p,σ1,h1,h2⟩:=k.ex;rcases h2 with⟨rfl,h2⟩ | ⟨rfl,h2⟩
 .obtain⟨σ2,h3,h4⟩:=h2.ex;exact⟨σ2,.more h h1 h3,h4⟩
 .exact⟨σ1,.stop h h1,h2⟩
def Iter(P:Program)(E:aE)(gf:FuncId)(cap:List PD)(K:List aB->Prop)(items:List (List PD)):Prop:=
 ∀fl id σ σ2,qA P E fl id K items σ σ2->∃q,jL P E fl (.inl gf) (.yield id::cap) σ q σ2
theorem Wp.rangeFunc{g:Operand}{ps:Array Tmp}{assign body:Code}{gf:FuncId}{cap:Gc}{K:List aB->Prop}{items:Fz}(hg:aZ fr g=some (.func gf cap))(hfl:fl<=σ.length)(hit:Iter P E gf cap K items)
  (h:tA P E fl (σ.length+1) K items (σ++[.mark]++[.loop .ready fr ps.toList assign body]) (λσ2=>∃r,xI (σ.length+1) fr (σ.length::ms) σ2=some r/\Q r)) :
  Wp P E none (.rangeFunc g ps assign body) fl fr ms σ Q:=by
 obtain⟨σ2,h1,r,h2,h3⟩:=h.ex;obtain⟨q,N,h4⟩:=hit _ _ _ _ h1;refine⟨r,.step (N:=N) λn hn=>?_,h3⟩;have:=h4 n hn;unfold eN at this;simp only[iO,hg,GA,hfl,yAL,this];exact h2
theorem aL.body{f:FuncId}{fn:Func}{c:Code}{args:Gc}{R:PD->List aB->Prop}(hE:E f=none)(hf:P.funcs[f]?=some fn)(hb:fn.body=some c)
  (h:Wp P E none c fl (args++List.replicate (fn.ntmps-args.length) (.aI [])) [] σ (λr=>∃p1 σ1,cI P fl fn r=some (p1,σ1)/\R p1 σ1)):aL P E fl (.inl f) args σ R:=by
 exact uy
end
def M7(ops:Array Oper):Bool:=(flags ops 0 ops.toList).all λx=>x.1
theorem RZ{P:Program}{call:dA}{fl:Nat}{ops:Gg}:∀(l:List (Bool×Oper)) (fr:List PD) (σ:List aB),l.all (λx=>x.1)=true->mN P call fl ops l fr σ=eF P call fl ops (l.map Prod.snd) fr σ
 | [],_,_,_=>rfl
 |(free,o)::l,fr,σ,h=>by
  simp only[yCv,yAr]at h;obtain⟨h1,h2⟩:=h;subst h1;simp only[eF,mN,yAS];split
  .cases cT P call fl fr σ o.op with
   |none=>rfl
   |some q=>obtain⟨p,σ'⟩:=q;simp only;exact RZ l _ _ h2
  .exact RZ l _ _ h2
theorem aAL(ops:Array Oper):∀(l:List Oper) (i:Nat),(flags ops i l).map Prod.snd=l
 | [],_=>rfl
 |o::l,i=>by simp only[flags,yAS,aAL ops l (i+1)]
theorem aHz{P:Program}{call:dA}{fl:Nat}{ops:Gg}(hs:(GB ops&&M7 ops)=true)(fr:List PD)(σ:List aB):oV P call fl ops fr σ=eF P call fl ops ops.toList fr σ:=by
 simp only[yAr]at hs;rw[aAM hs.1,RZ _ _ _ hs.2,aAL]
def aH(E:aE):Prop:=∀f g args p,E f=some g->g 0 args []=some (p,[])->∀fl σ,g fl args σ=some (p,σ)
def kJ(E:aE):dA
 |_,.inl f,args,σ=>match E f with
  |some g=>match g 0 args []with
   |some (p,[])=>some (p,σ)
   |_=>none
  |none=>none
 |_,.inr _,_,_=>none
def vR(ops:Array Oper):Bool:=ops.toList.all λo=>match o.op with
 |.box ..=>false
 |.call { callee:=.builtin .append,.. }=>false
 |.call { callee:=.builtin .copy,.. }=>false
 |_=>true
theorem MP{P:Program}{E:aE}(hU:aH E){fl eJ:Nat}{fr:Gc}{σ:Gb}{op:Op}{x:PD×Gb}(hop:(match op with
 |.box ..=>false
 |.call { callee:=.builtin .append,.. }=>false
 |.call { callee:=.builtin .copy,.. }=>false
 |_=>true)=true) (hm:eM op=true) (h:cT P (kJ E) fl fr σ op=some x):cT P (fI E) eJ fr σ op=some x/\x.2=σ:=by
 unfold cT at *;cases hc:gP fr op with
 |some q=>
  obtain⟨tg,args⟩:=q;simp only[hc]at h ⊢;cases tg with
  |inr id=>cases h
  |inl f=>
   simp only[kJ]at h;split at h
   .rename_i g hg;split at h
    .rename_i p hp;simp only[yAb]at h;subst h;simp only[fI,hg];exact⟨hU f g args p hg hp eJ σ,by trivial⟩
    .cases h
   .cases h
 |none=>
  exact fo
theorem aAN{P:Program}{call call':dA}{fl:Nat}{fr:Gc}{σ:Gb}{op:Op}(hm:eM op=false):cT P call fl fr σ op=cT P call' fl fr σ op:=by
 unfold cT;have:gP fr op=none:=by
  cases op with
  |call c=>
   obtain⟨callee,args,ts⟩:=c;cases callee with
   |value f=>simp[eM]at hm
   |invoke r m=>rfl
   |builtin b=>rfl
  |_=>rfl
 rw[this]
theorem I8{P:Program}{E:aE}(hU:aH E){fl:Nat}{ops:Gg}:∀(l:List Oper) (i:Nat) (fr:List PD) (σ:List aB) (x:Gc×List aB),l.all (λo=>match o.op with
 |.box ..=>false
 |.call { callee:=.builtin .append,.. }=>false
 |.call { callee:=.builtin .copy,.. }=>false
 |_=>true)=true->eF P (kJ E) fl ops l fr σ=some x->mN P (fI E) fl ops (flags ops i l) fr σ=some x
 | [],_,_,_,_,_,h=>h
 |o::l,i,fr,σ,x,ho,h=>by
  simp only[yCv,yAr]at ho;simp only[eF]at h;simp only[flags,mN];split at h
  .rename_i hw;rw[yAJ hw];split at h
   .rename_i p σ1 hp;cases hm:eM o.op with
    |false=>
     rw[aAN (call':=fI E) hm]at hp;simp only[yCm,yDl,hp];exact nt
    |true=>
     cases xG ops i with
     |true=>
      have:=(MP hU (eJ:=fl) ho.1 hm hp).1;simp only[Bool.or_true,this];exact nt
     |false=>
      obtain⟨e1,e2⟩:=MP hU (eJ:=max fl σ.length) ho.1 hm hp;simp only at e2;subst e2;simp only[yBJ,Bool.or_self,e1,yCl,yAl];exact nt
   .cases h
  .rename_i hw;rw[yAI hw];exact nt
theorem aH.entry{E:aE}(hU:aH E){f:FuncId}{g:List PD->Option PD}:aH (E.add f (entry g)):=by
 intro f' g' args p hE h fl σ;unfold aE.add at hE;split at hE
 .simp only[yAb]at hE;subst hE;unfold Go.Kz.entry at h ⊢;cases hg:g args with
  |none=>simp only[hg]at h;cases h
  |some q=>
   simp only[hg,yAb,yAc,yBl]at h;subst h;rfl
 .exact hU f' g' args p hE h fl σ
theorem aH.none:aH (λ_=>Option.none):=λ_ _ _ _ h=>Ap
theorem aH.other{E:aE}(hU:aH E){f:FuncId}{g:Fw}(hg:∀args p,g 0 args []≠some (p,[])):aH (E.add f g):=by
 intro f' g' args p hE h fl σ;unfold aE.add at hE;split at hE
 .simp only[yAb]at hE;subst hE;exact absurd h (hg _ _)
 .exact hU f' g' args p hE h fl σ
def force{α:Type}(n:Nat)(f:Nat->α):α:=match n with|0=>f 0|k+1=>f (k+1)
theorem force_eq{α:Type}(n:Nat)(f:Nat->α):force n f=f n:=by cases n<;>rfl
def M8{α:Type}:List Nat->Nat->(List Nat->α)->α
 | [],m,f=>f [m]
 |x::xs,m,f=>M8 xs m λys=>f (x::ys)
theorem aAO{α:Type}:∀(l:List Nat) (m:Nat) (f:List Nat->α),M8 l m f=f (l++[m])
 | [],_,_=>rfl
 |x::xs,m,f=>by rw[M8,aAO xs];rfl
def s6{α:Type}:List Oper->List Nat->(List Nat->α)->α
 | [],acc,f=>f acc
 |o::r,acc,f=>force (xO acc o) λm=>M8 acc m λacc'=>s6 r acc' f
theorem rY{α:Type}:∀(l:List Oper) (acc:List Nat) (f:List Nat->α),s6 l acc f=f (cN l acc)
 | [],_,_=>rfl
 |o::r,acc,f=>by rw[s6,force_eq,aAO,rY r];rfl
def uJ(ops:Array Oper):Bool:=s6 ops.toList [] λms=>
 vW ops ms&&ops.toList.all (λo=>!dF o.op) &&
 (List.range ops.size).all λk=>!fA iP ops.toList k||(List.range ops.size).all λi=>!fA fB ops.toList i||!loose ms i k
theorem MQ(ops:Array Oper):uJ ops=GB ops:=by rw[uJ,rY];rfl
def F4(ops:Array Oper):Bool:=s6 ops.toList [] λms=>
 (List.range ops.size).all λi=>!fA eM ops.toList i||kI ops.toList ms i
theorem aHA{ops:Gg}(h:F4 ops=true):M7 ops=true:=by
 rw[F4,rY]at h;simp only[yAn,yAX,yBR,yBI]at h;unfold M7;have key:∀(l:List Oper) (i:Nat),ops.toList.drop i=l->(flags ops i l).all (λx=>x.1)=true:=by
  intro l
  induction l with
  |nil=>intro _ _;rfl
  |cons o r ih=>
   intro i hd;have ho:ops.toList[i]?=some o:=by
    exact xx
   have hd':ops.toList.drop (i+1)=r:=Ff;have hi:i<ops.size:=by
    have:=(yA.1 ho).1;exact cr
   simp only[flags,yCv,yAr,yBR,yBI];refine⟨?_,ih (i+1) hd'⟩;have:=h i hi;rw[fA,ho]at this;simpa [xG]using this
 exact key _ 0 Ai
theorem aHB{ops:Gg}(h:(uJ ops&&F4 ops)=true):(GB ops&&M7 ops)=true:=by
 simp only[yAr,MQ]at h ⊢;exact⟨h.1,aHA h.2⟩
section
variable{P:Program}{E:aE}{rd:Option Nat}{fl:Nat}{fr:Gc}{ms:List Nat}{σ:Gb}{Q:PO->Prop}{ops:Gg}
theorem Wp.MM{id:Nat}{aS:Gc}{σ1:Gb}(hs:(uJ ops&&F4 ops)=true)(h:eF P (fI E) fl ops ops.toList fr σ=some (aS,σ1))(k:Q ⟨.normal,aS,ms,σ1⟩):Wp P E rd (.region id ops true) fl fr ms σ Q:=
 ⟨_,.draw (N:=0) (λ_ _=>by rw[aHz (aHB hs)];exact F8 h),k⟩
theorem Wp.I1{id:Nat}{aS:Gc}{σ1:Gb}(hU:aH E)(hs:(uJ ops&&vR ops)=true)(h:eF P (kJ E) fl ops ops.toList fr σ=some (aS,σ1))(k:Q ⟨.normal,aS,ms,σ1⟩):Wp P E rd (.region id ops true) fl fr ms σ Q:=by
 simp only[yAr,MQ]at hs;exact .draw hs.1 (I8 hU _ 0 _ _ _ hs.2 h) k
end
attribute [simp] xI uM kJ
end
section
def tn{n:Nat}(b:BitVec n):Int:=(b.toNat:Int)
def Em.aHx:Em (BitVec 64):=(Em.int .u64).mK tn (λ_ _ h=>yDY Ec)
def Em.aHy:Em (BitVec 16):=(Em.int .u16).mK tn (λ_ _ h=>yDY Ec)
def Em.bv8:Em (BitVec 8):=(Em.int .u8).mK tn (λ_ _ h=>yDY Ec)
@[simp] theorem aTL{b:BitVec 64}:Em.aHx.aA b=.int .u64 (tn b):=rfl
@[simp] theorem aTM{b:BitVec 16}:Em.aHy.aA b=.int .u16 (tn b):=rfl
@[simp] theorem aTN{b:BitVec 8}:Em.bv8.aA b=.int .u8 (tn b):=rfl
section
variable{a b:BitVec 64}
end
end
section
structure SQ (P:Program) (call:dA) (fl:Nat) (ops:Array Oper) (l:List Oper) (fr:List PD) (σ:List aB) (K:List PD->List aB->Prop):Prop where
 ex:∃fr' σ',eF P call fl ops l fr σ=some (fr',σ')/\K fr' σ'
def lk:List PD->Nat->Option PD
 | [],_=>none
 |x::_,0=>some x
 |_::xs,n+1=>lk xs n
def cP(fr:List PD):Operand->Option PD
 |.tmp t=>lk fr t
 |.const v=>ofValue v
 |.func f=>some (.func f [])
 |.global g=>match y8 g with
   |some ds=>some (.eO ds 0)
   |none=>none
def zJ(fr:List PD):List Operand->Option (List PD)
 | []=>some []
 |x::xs=>match cP fr x,zJ fr xs with
  |some p,some ps=>some (p::ps)
  |_,_=>none
def DN(fr:List PD):List (Nat×Operand)->Option (List (Nat×PD))
 | []=>some []
 |(i,x)::r=>match cP fr x,DN fr r with
  |some p,some ps=>some ((i,p)::ps)
  |_,_=>none
def zK(fr:List PD):Option Operand->Option (Option (Option PD))
 |none=>some none
 |some x=>match cP fr x with
  |some p=>some (some (some p))
  |none=>none
theorem M0:∀(fr:List PD) (t:Nat),lk fr t=fr[t]?
 | [],_=>by simp[lk]
 |_::_,0=>by simp[lk]
 |_::xs,n+1=>by simp[lk,M0 xs n]
theorem fJ{fr:Gc}{x:Operand}{p:PD}(h:cP fr x=some p):aZ fr x=some p:=by
 cases x with
 |tmp t=>
  simp only[cP,M0]at h;simp only[aZ,yAA,h,yDk]
 |_=>exact h
theorem M1{fr:Gc}:∀ {xs:List Operand} {ps:Gc},zJ fr xs=some ps->kL fr xs=some ps
 | [],_,h=>h
 |x::xs,ps,h=>by
  simp only[zJ]at h;split at h
  .rename_i p qs h1 h2;simp only[kL,fJ h1,M1 h2];exact h
  .cases h
theorem RR{fr:Gc}:∀ {xs:List (Nat×Operand)} {ps:List (Nat×PD)},DN fr xs=some ps->p7 fr xs=some ps
 | [],_,h=>h
 |(i,x)::xs,ps,h=>by
  simp only[DN]at h;split at h
  .rename_i p qs h1 h2;simp only[p7,fJ h1,RR h2];exact h
  .cases h
theorem RT{fr:Gc}{x:Option Operand}{p:Option (Option PD)}(h:zK fr x=some p):x.map (aZ fr)=p:=by
 cases x with
 |none=>simpa [zK]using h
 |some x=>
  simp only[zK]at h;split at h
  .rename_i q hq;simp only[yAb]at h;subst h;show some (aZ fr x)=_
   rw[fJ hq]
  .cases h
section
variable{P:Program}{E:aE}{call:dA}{rd:Option Nat}{fl:Nat}{fr aS:Gc}{ms:List Nat}{σ σ1:Gb}{Q:PO->Prop}{ops:Gg}{K:List PD->List aB->Prop}{l:List Oper}{dst:Option Tmp}
 {ty:TypeId} {pos:String} {edges:Array Edge} {guard:Option (Nat×Bool)} {t:TypeId} {x y:Operand} {p q r:PD}
theorem SQ.nil(h:K fr σ):SQ P call fl ops [] fr σ K:=⟨fr,σ,rfl,h⟩
theorem SQ.step{o:Oper}(hw:Region.wanted o (bR ops fr)=true)(h:cT P call fl fr σ o.op=some (p,σ1))(k:SQ P call fl ops l (bE fr o.dst p) σ1 K):SQ P call fl ops (o::l) fr σ K:=by
 obtain⟨fr',σ',h1,h2⟩:=k.ex;exact⟨fr',σ',by simp only[eF,hw,yAL,h,h1],h2⟩
theorem SQ.pass{o:Oper}(hw:Region.wanted o (bR ops fr)=false)(hf:bE fr o.dst (.aI [])=aS)(k:SQ P call fl ops l aS σ K):SQ P call fl ops (o::l) fr σ K:=by
 subst hf;obtain⟨fr',σ',h1,h2⟩:=k.ex;exact⟨fr',σ',by simp only[eF,hw,yAx,yAN,h1],h2⟩
theorem p8{op:Op}(hc:gP fr op=none)(h:eK P fr op=some p):cT P call fl fr σ op=some (p,σ):=by
 unfold cT pop;rw[hc,h]
theorem xJ{op:Op}(hc:gP fr op=none)(hv:eK P fr op=none)(h:dE P fl fr σ op=some (p,σ1)):cT P call fl fr σ op=some (p,σ1):=by
 unfold cT pop;rw[hc];simp only[hv];exact h
theorem SQ.move(hw:Region.wanted ⟨dst,.move x,ty,pos,edges,guard⟩ (bR ops fr)=true)(hx:cP fr x=some p)(hf:bE fr dst p=aS)(k:SQ P call fl ops l aS σ K):SQ P call fl ops (⟨dst,.move x,ty,pos,edges,guard⟩::l) fr σ K:=
 .step hw (p8 rfl (fJ hx)) (hf▸k)
theorem SQ.assign(hw:Region.wanted ⟨dst,.assign x,ty,pos,edges,guard⟩ (bR ops fr)=true)(hx:cP fr x=some p)(hf:bE fr dst p=aS)(k:SQ P call fl ops l aS σ K):SQ P call fl ops (⟨dst,.assign x,ty,pos,edges,guard⟩::l) fr σ K:=
 .step hw (p8 rfl (fJ hx)) (hf▸k)
theorem SQ.pick{c:Operand}{b:Bool}(hw:Region.wanted ⟨dst,.pick c x y,ty,pos,edges,guard⟩ (bR ops fr)=true)(hc:cP fr c=some (.bool b))(hx:cond b (cP fr x) (cP fr y)=some p)(hf:bE fr dst p=aS)(k:SQ P call fl ops l aS σ K) :
  SQ P call fl ops (⟨dst,.pick c x y,ty,pos,edges,guard⟩::l) fr σ K:=
 .step hw (p8 rfl (by simp only[eK,fJ hc];cases b<;>exact fJ hx)) (hf▸k)
theorem SQ.binOp{op:BinOp}{u:TypeId}(hw:Region.wanted ⟨dst,.binOp op t x y u,ty,pos,edges,guard⟩ (bR ops fr)=true)(hx:cP fr x=some p)(hy:cP fr y=some q)(hr:dW P op t p q=some r)(hf:bE fr dst r=aS)(k:SQ P call fl ops l aS σ K) :
  SQ P call fl ops (⟨dst,.binOp op t x y u,ty,pos,edges,guard⟩::l) fr σ K:=
 .step hw (p8 rfl Ep) (hf▸k)
theorem aHv{op:BinOp}{e:TypeId}{b:Bool}{u:TypeId}(hx:cP fr x=some p)(hu:P.underlying t=some (.slice e))(hb:gQ p=some b)(ho:op=.eql\/op=.neq) :
  eK P fr (.binOp op t x (.const (.slice none 0 0)) u)=some (.bool (if op=.eql then b else !b)):=by
 have hy:aZ fr (.const (.slice none 0 0))=some (.slice 0 [] .full):=rfl;simp only[eK,fJ hx,hy];have hn:dW P op t p (.slice 0 [] .full)=none:=by
  unfold gQ at hb;rcases ho with rfl|rfl
  all_goals
   split at hb
   .simp[dW,pB,lB,hu]
   .simp[dW,pB,lB,hu]
   .simp[dW,pB,lB,hu]
   .cases hb
 rw[hn];rcases ho with rfl|rfl<;>simp[BI,hu,hb]
theorem SQ.BB{e:TypeId}{b:Bool}{u:TypeId}(hw:Region.wanted ⟨dst,.binOp .eql t x (.const (.slice none 0 0)) u,ty,pos,edges,guard⟩ (bR ops fr)=true)(hx:cP fr x=some p)(hu:P.underlying t=some (.slice e))(hb:gQ p=some b)(hf:bE fr dst (.bool b)=aS)(k:SQ P call fl ops l aS σ K) :
  SQ P call fl ops (⟨dst,.binOp .eql t x (.const (.slice none 0 0)) u,ty,pos,edges,guard⟩::l) fr σ K:=
 .step hw (p8 rfl (aHv hx hu hb (.inl rfl))) (hf▸k)
theorem SQ.make{e:TypeId}{k1 k2:IntKind}{a b:Int}(hw:Region.wanted ⟨dst,.makeSlice t x y,ty,pos,edges,guard⟩ (bR ops fr)=true)(hx:cP fr x=some (.int k1 a))(hy:cP fr y=some (.int k2 b))(hu:P.underlying t=some (.slice e))(ha:0<=a/\0<=b)
  (hr:vU P σ t e a.toNat b.toNat=some (r,σ1)) (hf:bE fr dst r=aS) (k:SQ P call fl ops l aS σ1 K):SQ P call fl ops (⟨dst,.makeSlice t x y,ty,pos,edges,guard⟩::l) fr σ K:=
 .step hw (xJ rfl rfl (by simp only[dE,fJ hx,fJ hy,hu,gU,ha.1,ha.2,yAL,hr])) (hf▸k)
theorem SQ.unOp{op:UnOp}(hw:Region.wanted ⟨dst,.unOp op t x,ty,pos,edges,guard⟩ (bR ops fr)=true)(hx:cP fr x=some p)(hr:F5 op p=some r)(hf:bE fr dst r=aS)(k:SQ P call fl ops l aS σ K) :
  SQ P call fl ops (⟨dst,.unOp op t x,ty,pos,edges,guard⟩::l) fr σ K:=
 .step hw (p8 rfl Dl) (hf▸k)
def MZ(P:Program)(u t:TypeId)(p:PD):Option PD:=if DO u t=true then I6 P u t p else I7 P u t p
attribute [simp] MZ
theorem SQ.convert{u:TypeId}(hw:Region.wanted ⟨dst,.convert u t x,ty,pos,edges,guard⟩ (bR ops fr)=true)(hx:cP fr x=some p)(hr:MZ P u t p=some r)(hf:bE fr dst r=aS)(k:SQ P call fl ops l aS σ K) :
  SQ P call fl ops (⟨dst,.convert u t x,ty,pos,edges,guard⟩::l) fr σ K:=
 .step hw (by
  unfold MZ at hr;unfold cT pop;simp only[gP,eK,fJ hx];split at hr
  .rename_i hc;rw[yAJ hc];simp only[dE,fJ hx,hr];rw[yAJ hc]
  .rename_i hc;rw[yAI hc,hr]) (hf▸k)
theorem SQ.makeFunc{f:FuncId}{cap:Array Operand}{cs:Gc}(hw:Region.wanted ⟨dst,.makeFunc (.func f) #[] cap,ty,pos,edges,guard⟩ (bR ops fr)=true)(hx:zJ fr cap.toList=some cs)(hf:bE fr dst (.func f cs)=aS)(k:SQ P call fl ops l aS σ K) :
  SQ P call fl ops (⟨dst,.makeFunc (.func f) #[] cap,ty,pos,edges,guard⟩::l) fr σ K:=
 .step hw (p8 rfl (by simp[eK,M1 hx])) (hf▸k)
theorem SQ.slice{lo hi mx:Option Operand}{lo' hi' I4:Option (Option PD)}(hw:Region.wanted ⟨dst,.slice t x lo hi mx,ty,pos,edges,guard⟩ (bR ops fr)=true)(hx:cP fr x=some p)(h1:zK fr lo=some lo')(h2:zK fr hi=some hi')(h3:zK fr mx=some I4)
  (hr:s8 P t p lo' hi' I4=some r) (hf:bE fr dst r=aS) (k:SQ P call fl ops l aS σ K):SQ P call fl ops (⟨dst,.slice t x lo hi mx,ty,pos,edges,guard⟩::l) fr σ K:=by
 exact .step hw (p8 rfl (by simp only[eK,fJ hx,RT h1,RT h2,RT h3,hr])) (hf▸k)
theorem SQ.fieldAddr{f:Nat}(hw:Region.wanted ⟨dst,.fieldAddr t x f,ty,pos,edges,guard⟩ (bR ops fr)=true)(hx:cP fr x=some p)(hr:BF P t p f=some r)(hf:bE fr dst r=aS)(k:SQ P call fl ops l aS σ K) :
  SQ P call fl ops (⟨dst,.fieldAddr t x f,ty,pos,edges,guard⟩::l) fr σ K:=
 .step hw (p8 rfl Dl) (hf▸k)
theorem SQ.field{f:Nat}(hw:Region.wanted ⟨dst,.field t x f,ty,pos,edges,guard⟩ (bR ops fr)=true)(hx:cP fr x=some p)(hr:F6 P t p f=some r)(hf:bE fr dst r=aS)(k:SQ P call fl ops l aS σ K) :
  SQ P call fl ops (⟨dst,.field t x f,ty,pos,edges,guard⟩::l) fr σ K:=
 .step hw (p8 rfl Dl) (hf▸k)
theorem SQ.indexAddr(hw:Region.wanted ⟨dst,.indexAddr t x y,ty,pos,edges,guard⟩ (bR ops fr)=true)(hx:cP fr x=some p)(hy:cP fr y=some q)(hr:jZ P t p q=some r)(hf:bE fr dst r=aS)(k:SQ P call fl ops l aS σ K) :
  SQ P call fl ops (⟨dst,.indexAddr t x y,ty,pos,edges,guard⟩::l) fr σ K:=
 .step hw (p8 rfl Ep) (hf▸k)
theorem SQ.index(hw:Region.wanted ⟨dst,.index t x y,ty,pos,edges,guard⟩ (bR ops fr)=true)(hx:cP fr x=some p)(hy:cP fr y=some q)(hr:zL P t p q=some r)(hf:bE fr dst r=aS)(k:SQ P call fl ops l aS σ K) :
  SQ P call fl ops (⟨dst,.index t x y,ty,pos,edges,guard⟩::l) fr σ K:=
 .step hw (p8 rfl Ep) (hf▸k)
theorem SQ.extract{i:Nat}{vs:Gc}(hw:Region.wanted ⟨dst,.extract x i,ty,pos,edges,guard⟩ (bR ops fr)=true)(hx:cP fr x=some (.aI vs))(hr:vs[i]?=some r)(hf:bE fr dst r=aS)(k:SQ P call fl ops l aS σ K) :
  SQ P call fl ops (⟨dst,.extract x i,ty,pos,edges,guard⟩::l) fr σ K:=
 .step hw (p8 rfl Dl) (hf▸k)
theorem SQ.build{parts:Array (Nat×Operand)}{ps:List (Nat×PD)}(hw:Region.wanted ⟨dst,.build t parts,ty,pos,edges,guard⟩ (bR ops fr)=true)(hx:DN fr parts.toList=some ps)(hr:F7 P t ps=some r)(hf:bE fr dst r=aS)(k:SQ P call fl ops l aS σ K) :
  SQ P call fl ops (⟨dst,.build t parts,ty,pos,edges,guard⟩::l) fr σ K:=
 .step hw (p8 rfl (by simp only[eK,RR hx,hr])) (hf▸k)
theorem SQ.builtin{b:Builtin}{args:Array Operand}{ts:Array TypeId}{ps:Gc}(hw:Region.wanted ⟨dst,.call { callee:=.builtin b,args:=args,argTypes:=ts },ty,pos,edges,guard⟩ (bR ops fr)=true)(hx:zJ fr args.toList=some ps)(hr:j5 P b ts ps=some r)
  (hf:bE fr dst r=aS) (k:SQ P call fl ops l aS σ K):SQ P call fl ops (⟨dst,.call { callee:=.builtin b,args:=args,argTypes:=ts },ty,pos,edges,guard⟩::l) fr σ K:=
 .step hw (p8 rfl (by simp only[eK,M1 hx,hr])) (hf▸k)
theorem SQ.load(hw:Region.wanted ⟨dst,.load t x,ty,pos,edges,guard⟩ (bR ops fr)=true)(hx:cP fr x=some p)(hr:p6 P σ t p=some r)(hf:bE fr dst r=aS)(k:SQ P call fl ops l aS σ K):SQ P call fl ops (⟨dst,.load t x,ty,pos,edges,guard⟩::l) fr σ K:=
 .step hw (xJ rfl rfl (by simp only[dE,fJ hx,hr])) (hf▸k)
theorem SQ.store(hw:Region.wanted ⟨dst,.store t x y,ty,pos,edges,guard⟩ (bR ops fr)=true)(hx:cP fr x=some p)(hy:cP fr y=some q)(hr:s9 P fl σ t p q=some σ1)(hf:bE fr dst (.aI [])=aS)(k:SQ P call fl ops l aS σ1 K) :
  SQ P call fl ops (⟨dst,.store t x y,ty,pos,edges,guard⟩::l) fr σ K:=
 .step hw (xJ rfl rfl (by simp only[dE,fJ hx,fJ hy,hr])) (hf▸k)
theorem SQ.alloc{p':PD}(hw:Region.wanted ⟨dst,.alloc t,ty,pos,edges,guard⟩ (bR ops fr)=true)(hx:eR P t=some p)(hp:p.cells.all PD.plain=true)(hb:boxed t p=p')(hr:σ++[.box p']=σ1){n:Nat}(hn:σ.length=n)(hf:bE fr dst (.ptr n 0)=aS)(k:SQ P call fl ops l aS σ1 K) :
  SQ P call fl ops (⟨dst,.alloc t,ty,pos,edges,guard⟩::l) fr σ K:=by
 subst hb hr hn;exact .step hw (xJ rfl rfl (by simp only[dE,hx,hp,yAL])) (hf▸k)
theorem SQ.box(hw:Region.wanted ⟨dst,.box t x,ty,pos,edges,guard⟩ (bR ops fr)=true)(hx:cP fr x=some p)(hp:p.cells.all PD.plain=true)(hr:σ++[.box p]=σ1){n:Nat}(hn:σ.length=n)(hf:bE fr dst (.ptr n 0)=aS)(k:SQ P call fl ops l aS σ1 K) :
  SQ P call fl ops (⟨dst,.box t x,ty,pos,edges,guard⟩::l) fr σ K:=by
 subst hr hn;exact .step hw (xJ rfl rfl (by simp only[dE,fJ hx,hp,yAL])) (hf▸k)
theorem SQ.buildSlice{len:Nat}{parts:Array (Nat×Operand)}{ps:List (Nat×PD)}(hw:Region.wanted ⟨dst,.buildSlice t len parts,ty,pos,edges,guard⟩ (bR ops fr)=true)(hx:DN fr parts.toList=some ps)(hr:uL P t len (ps.map λq=>(q.1,q.2.strip))=some r)
  (hf:bE fr dst r=aS) (k:SQ P call fl ops l aS σ K):SQ P call fl ops (⟨dst,.buildSlice t len parts,ty,pos,edges,guard⟩::l) fr σ K:=
 .step hw (xJ rfl rfl (by simp only[dE,RR hx,hr])) (hf▸k)
theorem SQ.append(hw:Region.wanted ⟨dst,.call { callee:=.builtin .append,args:=#[x,y],argTypes:=#[t,t] },ty,pos,edges,guard⟩ (bR ops fr)=true)(hx:cP fr x=some p)(hy:cP fr y=some q)
  (hr:(if lE t fr.length=true then fR P fr.length fl σ t p q else gH P fl σ t p q.strip)=some (r,σ1)) (hf:bE fr dst r=aS) (k:SQ P call fl ops l aS σ1 K):SQ P call fl ops (⟨dst,.call { callee:=.builtin .append,args:=#[x,y],argTypes:=#[t,t] },ty,pos,edges,guard⟩::l) fr σ K:=by
 refine .step hw (xJ rfl ?_ ?_) (hf▸k)
 .simp only[eK,kL,fJ hx,fJ hy,j5]
 .simp only[dE,kL,fJ hx,fJ hy,yAL]
  by_cases hm:lE t fr.length=true
  .rw[yAJ hm]at hr;rw[hr]
  .rw[yAI hm]at hr;have:fR P fr.length fl σ t p q=none:=by unfold fR;rw[yAI hm]
   rw[this];exact hr
theorem SQ.BC{g:Operand}{args:Array Operand}{ts:Array TypeId}{f:FuncId}{cap ps:Gc}(hw:Region.wanted ⟨dst,.call { callee:=.value g,args:=args,argTypes:=ts },ty,pos,edges,guard⟩ (bR ops fr)=true)(hg:cP fr g=some (.func f cap))
  (hx:zJ fr args.toList=some ps) (hr:call fl (.inl f) (ps++cap) σ=some (r,σ1)) (hf:bE fr dst r=aS) (k:SQ P call fl ops l aS σ1 K):SQ P call fl ops (⟨dst,.call { callee:=.value g,args:=args,argTypes:=ts },ty,pos,edges,guard⟩::l) fr σ K:=by
 refine .step hw ?_ (hf▸k);simp only[cT,gP,fJ hg,M1 hx,hr]
theorem aJ.lY{f:FuncId}{fn:Func}{c:Code}{args fr:Gc}{p:PD}(hE:E f=none)(hf:P.funcs[f]?=some fn)(hb:fn.body=some c)(hfr:args++List.replicate (fn.ntmps-args.length) (.aI [])=fr)
  (h:Wp P E none c 0 fr [] [] (λr=>∃p1 σ1,cI P 0 fn r=some (p1,σ1)/\p1.strip=p)):aJ P E f args p:=by
 subst hfr;exact aJ.body hE hf hb h
theorem aL.lY{f:FuncId}{fn:Func}{c:Code}{args:Gc}{R:PD->List aB->Prop}(hE:E f=none)(hf:P.funcs[f]?=some fn)(hb:fn.body=some c)(hfr:args++List.replicate (fn.ntmps-args.length) (.aI [])=fr)
  (h:Wp P E none c fl fr [] σ (λr=>∃p1 σ1,cI P fl fn r=some (p1,σ1)/\R p1 σ1)):aL P E fl (.inl f) args σ R:=by
 subst hfr;exact aL.body hE hf hb h
theorem aJ.aN{f:FuncId}{fn:Func}{c:Code}{args fr:Gc}{p:PD}(n:Nat)(hE:E f=none)(hf:P.funcs[f]?=some fn)(hb:fn.body=some c:=by rfl)(hn:fn.ntmps=n:=by rfl)(hfr:args++List.replicate (n-args.length) (.aI [])=fr:=by(simp[List.replicate];rfl))
  (h:Wp P E none c 0 fr [] [] (λr=>∃p1 σ1,cI P 0 fn r=some (p1,σ1)/\p1.strip=p)):aJ P E f args p:=by
 subst hn;exact aJ.lY hE hf hb hfr h
theorem aL.aN{f:FuncId}{fn:Func}{c:Code}{args fr:Gc}{R:PD->List aB->Prop}(n:Nat)(hE:E f=none)(hf:P.funcs[f]?=some fn)(hb:fn.body=some c:=by rfl)(hn:fn.ntmps=n:=by rfl)(hfr:args++List.replicate (n-args.length) (.aI [])=fr:=by(simp[List.replicate];rfl))
  (h:Wp P E none c fl fr [] σ (λr=>∃p1 σ1,cI P fl fn r=some (p1,σ1)/\R p1 σ1)):aL P E fl (.inl f) args σ R:=by
 subst hn;exact aL.lY hE hf hb hfr h
theorem Wp.mZ{id:Nat}(h:SQ P (fI E) fl ops ops.toList fr σ (λfr' σ'=>Q ⟨.normal,fr',ms,σ'⟩)):Wp P E rd (.region id ops false) fl fr ms σ Q:=by
 obtain⟨fr',σ',h1,h2⟩:=h.ex;exact .region h1 h2
theorem Wp.aHr{id:Nat}(hU:aH E)(hs:(uJ ops&&vR ops)=true)(h:SQ P (kJ E) fl ops ops.toList fr σ (λfr' σ'=>Q ⟨.normal,fr',ms,σ'⟩)):Wp P E rd (.region id ops true) fl fr ms σ Q:=by
 obtain⟨fr',σ',h1,h2⟩:=h.ex;exact .I1 hU hs h1 h2
theorem Wp.aHs{id:Nat}(hs:(uJ ops&&F4 ops)=true)(h:SQ P (fI E) fl ops ops.toList fr σ (λfr' σ'=>Q ⟨.normal,fr',ms,σ'⟩)):Wp P E rd (.region id ops true) fl fr ms σ Q:=by
 obtain⟨fr',σ',h1,h2⟩:=h.ex;exact .MM hs h1 h2
theorem Wp.RU(k:Nat){id:Nat}{o:Oper}{rest:List Oper}(hk:ops.toList=ops.toList.take k++o::rest)(h:SQ P (fI E) fl ops (ops.toList.take k) fr σ (λaS σ1=>Region.wanted o (bR ops aS)=true/\∃tg args,gP aS o.op=some (tg,args) /\
   aL P E fl tg args σ1 (λp σ2=>∃xK,bE aS o.dst p=xK/\SQ P (fI E) fl ops rest xK σ2 (λfr' σ'=>Q ⟨.normal,fr',ms,σ'⟩)))):Wp P E rd (.region id ops false) fl fr ms σ Q:=by
 obtain⟨aS,σ1,h1,hw,tg,args,hc,h2⟩:=h.ex;obtain⟨p,σ2,⟨N,h3⟩,xK,kY,h4⟩:=h2.ex;subst kY;obtain⟨fr',σ',h5,h6⟩:=h4.ex;refine .aHw ⟨N,fr',σ',λn hn=>?_,h6⟩;rw[<-M5,hk];have e:∀(l l':List Oper) (fr:List PD) (σ:List aB),eF P (eN P E n) fl ops (l++l') fr σ=(match eF P (eN P E n) fl ops l fr σ with|some (aS,σ1)=>eF P (eN P E n) fl ops l' aS σ1|none=>none):=by
  intro l
  induction l with
  |nil=>intro l' fr σ;rfl
  |cons o l ih=>
   intro l' fr σ;simp only[yAR,eF];split
   .cases cT P (eN P E n) fl fr σ o.op with
    |none=>rfl
    |some q=>obtain⟨p,σ'⟩:=q;simp only;exact ih l' _ _
   .exact ih l' _ _
 rw[e,F8 h1];simp only[eF,hw,yAL,cT,hc,h3 n hn];exact F8 h5
theorem YQ{o:Oper}{rest:List Oper}{tg:FuncId ⊕ Nat}{args:Gc}{K:List PD->List aB->Prop}(hw:Region.wanted o (bR ops fr)=true)(hc:gP fr o.op=some (tg,args))
  (h:aL P E fl tg args σ (λp σ2=>∃xK,bE fr o.dst p=xK/\SQ P (fI E) fl ops rest xK σ2 K)):Region.wanted o (bR ops fr)=true/\∃tg args,gP fr o.op=some (tg,args)/\aL P E fl tg args σ (λp σ2=>∃xK,bE fr o.dst p=xK/\SQ P (fI E) fl ops rest xK σ2 K):=
 ⟨hw,tg,args,hc,h⟩
theorem qA.here{id:Nat}{K:List aB->Prop}{items:Fz}{σ σ2:Gb}(h:qA P E fl id K items σ σ2):K σ:=by cases h<;>assumption
theorem qA.inv{id:Nat}{K:List aB->Prop}{a:Gc}{items:Fz}{σ σ2:Gb}(h:qA P E fl id K (a::items) σ σ2) :
  (∃σ1,jL P E fl (.inr id) a σ (.bool true) σ1/\qA P E fl id K items σ1 σ2)\/jL P E fl (.inr id) a σ (.bool false) σ2:=by
 cases h with
 |more h1 h2 h3=>exact .inl ⟨_,h2,h3⟩
 |stop h1 h2=>exact .inr h2
theorem qA.RV{id:Nat}{K:List aB->Prop}{σ σ2:Gb}(h:qA P E fl id K [] σ σ2):σ2=σ:=Co
structure bV (I:Nat->List PD->List aB->Prop) (m:Nat) (ms:List Nat) (Q:PO->Prop) (r:PO):Prop where
 nx:r.x=.normal->r.ms=ms/\∃m',m'<m/\I m' r.fr r.σ
 out:r.x≠.normal->Q r
theorem bV.normal{I:Nat->List PD->List aB->Prop}{m:Nat}(m':Nat)(h:m'<m)(k:I m' fr σ):bV I m ms Q ⟨.normal,fr,ms,σ⟩:=⟨λ_=>⟨rfl,m',h,k⟩,λe=>absurd rfl e⟩
theorem bV.ret{I:Nat->List PD->List aB->Prop}{m:Nat}{ms':List Nat}(h:Q ⟨.ret,fr,ms',σ⟩):bV I m ms Q ⟨.ret,fr,ms',σ⟩:=⟨λe=>Bj,λ_=>h⟩
theorem bV.exit{I:Nat->List PD->List aB->Prop}{m k:Nat}{ms':List Nat}(h:Q ⟨.exit k,fr,ms',σ⟩):bV I m ms Q ⟨.exit k,fr,ms',σ⟩:=⟨λe=>Bj,λ_=>h⟩
theorem Wp.cZ{b:Code}(I:Nat->List PD->List aB->Prop)(h:∀m fr σ,I m fr σ->Wp P E rd b fl fr ms σ (bV I m ms Q)):∀m {fr σ},I m fr σ->Wp P E rd (.loop b) fl fr ms σ Q:=by
 intro m
 induction m using Nat.strongRecOn with
 |ind m ih=>
  intro fr σ hi;refine Wp.loop ((h m fr σ hi).mono λr hr=>⟨λe=>?_,λe=>hr.out e⟩);obtain⟨e1,m',h1,h2⟩:=hr.nx e;rw[e1];exact ih m' h1 h2
end
end
section
section
variable{P:Program}{E:aE}{rd:Option Nat}{fl:Nat}{fr frA:Gc}{ms:List Nat}{σ:Gb}{Q:PO->Prop}
def I5(R:PD->List aB->Prop)(id:Nat)(L:aB)(fS:List PD)(ps:List Tmp)(asg bd:Code)(r:PO):Prop:=
 match r.x with
 |.normal=>R (.bool true) (r.σ.set id L)
 |.ret=>R (.bool false) (r.σ.set id (.loop (.done .ret) fS ps asg bd))
 |.exit k=>R (.bool false) (r.σ.set id (.loop (.done (.exit k)) fS ps asg bd))
theorem aL.RN{id:Nat}{args:Gc}{R:PD->List aB->Prop}{fS:Gc}{ps:List Tmp}{asg bd:Code}{L:aB}(hL:L=.loop .ready fS ps asg bd)(hfl:fl<=id)(h0:σ[id]?=some L)(hl:args.length=ps.length)(hfr:uM fS ps args=frA)
  (h:∀LB,LB=aB.loop .busy fS ps asg bd->Wp P E (some id) asg fl frA [] σ (λr=>r.x=.normal/\r.σ[id]?=some L/\∃RO,r.σ.set id LB=RO /\
   Wp P E (some id) bd fl r.fr r.ms RO (λr2=>r2.σ[id]?=some LB/\I5 R id L fS ps asg bd r2))):aL P E fl (.inr id) args σ R:=by
 subst hL hfr;refine aL.round hfl h0 hl ((h _ rfl).mono λr hr=>?_);obtain⟨e1,e2,RO,rfl,hw⟩:=hr;refine⟨e1,_,_,_,_,e2,hw.mono λr2 h2=>⟨_,_,_,_,h2.1,?_⟩⟩;have h3:=h2.2;unfold I5 at h3;cases hx:r2.x<;>simp only[hx]at h3 ⊢<;>exact h3
theorem Wp.RQ{g:Operand}{ps:Array Tmp}{asg bd:Code}{gf:FuncId}{cap:Gc}{K:List aB->Prop}{items:Fz}{n:Nat}{σ1:aB->Gb}(hit:Iter P E gf cap K items)(hg:cP fr g=some (.func gf cap))(hn:σ.length=n)(hfl:fl<=n)
  (dQ:∀L,σ++[.mark]++[L]=σ1 L)
  (h:∀L,L=aB.loop .ready fr ps.toList asg bd->tA P E fl (n+1) K items (σ1 L) (λσ2=>∃r,xI (n+1) fr (n::ms) σ2=some r/\Q r)):Wp P E none (.rangeFunc g ps asg bd) fl fr ms σ Q:=by
 subst hn;have:=h _ rfl;rw[<-dQ]at this;exact Wp.rangeFunc (fJ hg) hfl hit this
theorem tA.ind{α:Type}{id:Nat}{K R:List aB->Prop}(item:α->List PD)(I:List α->List α->List aB->Prop)
  (h:∀done a rest σ,I done (a::rest) σ->K σ/\aL P E fl (.inr id) (item a) σ (λp σ1=>(p=.bool true/\I (done++[a]) rest σ1)\/(p=.bool false/\R σ1))) (h0:∀done σ,I done [] σ->K σ/\R σ) :
  ∀rest done σ,I done rest σ->tA P E fl id K (rest.map item) σ R
 | [],done,σ,hi=>.nil (h0 done σ hi).1 (h0 done σ hi).2
 |a::rest,done,σ,hi=>.cons (h done a rest σ hi).1 ((h done a rest σ hi).2.mono λp σ1 hp=>hp.imp (λ⟨e,k⟩=>⟨e,tA.ind item I h h0 rest _ _ k⟩) (λx=>x))
end
end
section
open Go.RowKit Go.ChangeShapes
theorem aF.aHt{P:Program}{E:aE}(hE:aF P E)(hP:P.follows .mixedOrders=true){f:FuncId}{b:Bool}{N:Nat}{σ1:Gb}(h:eN P E N 0 (.inl f) [] []=some (.bool b,σ1)) :
  aF P (E.add f (entry (vP Em.bool (some b)))):=by
 intro F fl f' g' args c vs p σ' hF hg hgo hs hX hv;unfold aE.add at hg;split at hg
 .rename_i e;subst e;simp only[yAb]at hg;subst hg
  match args,hgo,hv with
  | [],hgo,hv=>
    simp only[entry,vP,yAb,yAc]at hgo;obtain⟨rfl,rfl⟩:=hgo;have iN:aV c.bare vs []:=⟨hv.1,λi v d _ h2=>by simp at h2⟩;have:=(BH hE hP hF N).fn (c:=c.bare) h hs.bare (λ_ _ h=>h.elim) iN;refine⟨this.1,λm=>yCE (this.2 m) λe w' he=>?_⟩;cases e with
    |returned v=>
     obtain⟨c1,rfl,rfl,hs1,nx,hvv,_⟩:=he;have hgr:c.w.grownBy c1.w none:=⟨nx.os,nx.tape,nx.output,nx.size,λk hk _=>nx.frame k hk (λ_ h=>h.elim)⟩;refine⟨c.at c1.w,rfl,rfl,hs.grow hgr,Nx.grow hs hgr,?_,λ_ h=>.inl h⟩;rw[hvv.zM];exact .bool b
    |panicked ch=>exact he.elim
    |outgrown=>exact he.elim
 .exact gv
theorem aJ.calls{P:Program}{E:aE}(hE:aF P E)(hP:P.follows .mixedOrders=true)(hN:∀(f:FuncId) fn,P.funcs[f]?=some fn->(fn.name== "runtime.NumGoroutine")=false)
  {f:FuncId} {args:Gc} {vs:Gf} {w:World} {b:Bool} (h:aJ P E f args (.bool b)) (hg:Gl (.start w)) (hv:aV (.start w) vs.toList args) :
  Calls P f vs w λe w'=>e=.returned (.bool b)/\Below w.heap.size w w':=by
 obtain⟨p1,σ1,⟨N,hN'⟩,hp⟩:=h;have hb:p1=.bool b:=by
  cases p1 with
  |slice n xs tok=>cases xs<;>simp[PD.strip]at hp
  |_=>simpa [PD.strip]using hp
 subst hb;have:=aHu hE hP hN (hN' N (yAk _)) hg hv;exact cr
section
variable{H:Type}{enc:TypeId×Value->H}{P:Program}
theorem aAK(hl:laidOutB P=true){W W':World}(hb:Below W.heap.size W W'):∀(ts:List TypeId) (vs:List Value) (ds:List (DataW H)) (ps:List MemPlace),(∀t∈ts,P.readableRec t=true/\t<P.types.size)->(∀x∈ps,x.block<W.heap.size) ->
  DataW.TrodAll enc P W 0 (λ_=>true) true ts vs ds ps->DataW.TrodAll enc P W' 0 (λb=>decide (b<W.heap.size)) true ts vs ds ps
 | [],[],[],_,_,_,h=>h
 |t::ts,v::vs,d::ds,ps,ht,hp,h=>by
  obtain⟨p,q,h1,h2,rfl⟩:=h;obtain⟨h3,h4⟩:=ht t Ai;exact⟨p,q,Below.trod hl h3 h4 h1 hb (λx hx=>hp x (by simp[hx])),aAK hl hb ts vs ds q (λt' h'=>ht t' (by simp[h'])) (λx hx=>hp x (by simp[hx])) h2,rfl⟩
 | [],[],_::_,_,_,_,h=>h.elim
 | [],_::_,_,_,_,_,h=>Ap
 |_::_,[],_,_,_,_,h=>Ap
 |_::_,_::_,[],_,_,_,h=>h.elim
theorem aG8(hl:laidOutB P=true){f:Func}{s:ChangeSpec}{W W':World}{args:Gf}{ds gs:List (DataW H)}{before:List MemPlace}{tb:TypeId}(hvars:s.vars=[])
  (hW:DataW.Whole enc P f.params.toList s.vars false W args.toList ds gs before) (hb:Below W.heap.size W W') (hres:f.resultTypes=#[tb]) (htb:P.underlying tb=some .bool)
  (hps:(f.params.toList.all λt=>P.readableRec t&&decide (t<P.types.size))=true) (hs:∀ds:List (DataW H),gs=[]->ds.length=f.params.size->s.fn H (ds++gs)={ results:=[.lit (.bool true)],args:=ds }) :
  s.post enc P f false true false false W args (.bool true) W':=by
 have MF:=hW;obtain⟨p,q,hA,hV,rfl,hfz,hnd⟩:=hW;rw[hvars]at hV;obtain⟨rfl,rfl⟩:gs=[]/\q=[]:=by
  cases gs with
  |nil=>exact⟨rfl,hV⟩
  |cons g r=>exact absurd hV (by intro h;cases h)
 have hlen:ds.length=f.params.size:=by
  have:∀(ts:List TypeId) (vs:List Value) (ds:List (DataW H)) (ps:List MemPlace),DataW.TrodAll enc P W 0 (λ_=>true) true ts vs ds ps->ds.length=ts.length:=by
   intro ts
   induction ts with
   |nil=>
    intro vs ds ps h;cases vs<;>cases ds<;>first|rfl|(exact h.elim)|cases h
   |cons t ts ih=>
    intro vs ds ps h;cases vs with
    |nil=>cases h
    |cons v vs=>
     cases ds with
     |nil=>exact h.elim
     |cons d ds=>
      obtain⟨p,q,_,h2,_⟩:=h;simp[ih vs ds q h2]
  have:=this _ _ _ _ hA;exact cr
 have e:=hs ds rfl hlen;have hlt:∀x∈p,x.block<W.heap.size:=λx hx=>by simpa using MF.lt x Ct
 refine⟨ds,[],_,[],p,[],MF,?_,?_,?_,hb.frame _,λh=>Ap⟩
 .rw[e,hres];exact trodAll_mk1 (shut_bool htb true)
 .rw[e];exact aAK hl hb _ _ _ _ (λt ht=>by simpa using yAn.1 hps t ht) hlt hA
 .rw[e,hvars];rfl
end
end
section
structure By (p:Prop):Prop where
 h:p
structure Fr (p:Prop):Prop where
 h:p
structure Wt (p:Prop):Prop where
 h:p
structure Ns (p:Prop):Prop where
 h:p
theorem By.i{p:Prop}(h:p):By p:=⟨h⟩
theorem Fr.i{p:Prop}(h:p):Fr p:=⟨h⟩
theorem Wt.i{p:Prop}(h:p):Wt p:=⟨h⟩
theorem Ns.i{p:Prop}(h:p):Ns p:=⟨h⟩
section
variable{P:Program}{E:aE}{call:dA}{rd:Option Nat}{fl:Nat}{fr aS:Gc}{ms:List Nat}{σ σ1:Gb}{Q:PO->Prop}{ops:Gg}{K:List PD->List aB->Prop}{l:List Oper}{dst:Option Tmp}
 {ty:TypeId} {pos:String} {edges:Array Edge} {guard:Option (Nat×Bool)} {t:TypeId} {x y:Operand} {p q r:PD}
theorem SL.move(hw:Wt (Region.wanted ⟨dst,.move x,ty,pos,edges,guard⟩ (bR ops fr)=true))(hx:cP fr x=some p)(hf:Fr (bE fr dst p=aS))(k:SQ P call fl ops l aS σ K):SQ P call fl ops (⟨dst,.move x,ty,pos,edges,guard⟩::l) fr σ K:=SQ.move hw.h hx hf.h k
theorem SL.assign(hw:Wt (Region.wanted ⟨dst,.assign x,ty,pos,edges,guard⟩ (bR ops fr)=true))(hx:cP fr x=some p)(hf:Fr (bE fr dst p=aS))(k:SQ P call fl ops l aS σ K):SQ P call fl ops (⟨dst,.assign x,ty,pos,edges,guard⟩::l) fr σ K:=SQ.assign hw.h hx hf.h k
theorem SL.pick{c:Operand}{b:Bool}(hw:Wt (Region.wanted ⟨dst,.pick c x y,ty,pos,edges,guard⟩ (bR ops fr)=true))(hc:cP fr c=some (.bool b))(hx:cond b (cP fr x) (cP fr y)=some p)(hf:Fr (bE fr dst p=aS))(k:SQ P call fl ops l aS σ K) :
  SQ P call fl ops (⟨dst,.pick c x y,ty,pos,edges,guard⟩::l) fr σ K:=SQ.pick hw.h hc hx hf.h k
theorem SL.binOp{op:BinOp}{u:TypeId}(hw:Wt (Region.wanted ⟨dst,.binOp op t x y u,ty,pos,edges,guard⟩ (bR ops fr)=true))(hx:cP fr x=some p)(hy:cP fr y=some q)(hr:By (dW P op t p q=some r))(hf:Fr (bE fr dst r=aS))(k:SQ P call fl ops l aS σ K) :
  SQ P call fl ops (⟨dst,.binOp op t x y u,ty,pos,edges,guard⟩::l) fr σ K:=SQ.binOp hw.h hx hy hr.h hf.h k
theorem SL.BB{e:TypeId}{b:Bool}{u:TypeId}(hw:Wt (Region.wanted ⟨dst,.binOp .eql t x (.const (.slice none 0 0)) u,ty,pos,edges,guard⟩ (bR ops fr)=true))(hx:cP fr x=some p)(hu:By (P.underlying t=some (.slice e)))(hb:By (gQ p=some b))(hf:Fr (bE fr dst (.bool b)=aS))(k:SQ P call fl ops l aS σ K) :
  SQ P call fl ops (⟨dst,.binOp .eql t x (.const (.slice none 0 0)) u,ty,pos,edges,guard⟩::l) fr σ K:=SQ.BB hw.h hx hu.h hb.h hf.h k
theorem SL.make{e:TypeId}{k1 k2:IntKind}{a b:Int}(hw:Wt (Region.wanted ⟨dst,.makeSlice t x y,ty,pos,edges,guard⟩ (bR ops fr)=true))(hx:cP fr x=some (.int k1 a))(hy:cP fr y=some (.int k2 b))(hu:By (P.underlying t=some (.slice e)))(ha:Wt (0<=a/\0<=b))
  (hr:By (vU P σ t e a.toNat b.toNat=some (r,σ1))) (hf:Fr (bE fr dst r=aS)) (k:SQ P call fl ops l aS σ1 K):SQ P call fl ops (⟨dst,.makeSlice t x y,ty,pos,edges,guard⟩::l) fr σ K:=SQ.make hw.h hx hy hu.h ha.h hr.h hf.h k
theorem SL.unOp{op:UnOp}(hw:Wt (Region.wanted ⟨dst,.unOp op t x,ty,pos,edges,guard⟩ (bR ops fr)=true))(hx:cP fr x=some p)(hr:By (F5 op p=some r))(hf:Fr (bE fr dst r=aS))(k:SQ P call fl ops l aS σ K) :
  SQ P call fl ops (⟨dst,.unOp op t x,ty,pos,edges,guard⟩::l) fr σ K:=SQ.unOp hw.h hx hr.h hf.h k
theorem SL.convert{u:TypeId}(hw:Wt (Region.wanted ⟨dst,.convert u t x,ty,pos,edges,guard⟩ (bR ops fr)=true))(hx:cP fr x=some p)(hr:By (MZ P u t p=some r))(hf:Fr (bE fr dst r=aS))(k:SQ P call fl ops l aS σ K) :
  SQ P call fl ops (⟨dst,.convert u t x,ty,pos,edges,guard⟩::l) fr σ K:=SQ.convert hw.h hx hr.h hf.h k
theorem SL.makeFunc{f:FuncId}{cap:Array Operand}{cs:Gc}(hw:Wt (Region.wanted ⟨dst,.makeFunc (.func f) #[] cap,ty,pos,edges,guard⟩ (bR ops fr)=true))(hx:zJ fr cap.toList=some cs)(hf:Fr (bE fr dst (.func f cs)=aS))(k:SQ P call fl ops l aS σ K) :
  SQ P call fl ops (⟨dst,.makeFunc (.func f) #[] cap,ty,pos,edges,guard⟩::l) fr σ K:=SQ.makeFunc hw.h hx hf.h k
theorem SL.slice{lo hi mx:Option Operand}{lo' hi' I4:Option (Option PD)}(hw:Wt (Region.wanted ⟨dst,.slice t x lo hi mx,ty,pos,edges,guard⟩ (bR ops fr)=true))(hx:cP fr x=some p)(h1:zK fr lo=some lo')(h2:zK fr hi=some hi')(h3:zK fr mx=some I4)
  (hr:By (s8 P t p lo' hi' I4=some r)) (hf:Fr (bE fr dst r=aS)) (k:SQ P call fl ops l aS σ K):SQ P call fl ops (⟨dst,.slice t x lo hi mx,ty,pos,edges,guard⟩::l) fr σ K:=SQ.slice hw.h hx h1 h2 h3 hr.h hf.h k
theorem SL.fieldAddr{f:Nat}(hw:Wt (Region.wanted ⟨dst,.fieldAddr t x f,ty,pos,edges,guard⟩ (bR ops fr)=true))(hx:cP fr x=some p)(hr:By (BF P t p f=some r))(hf:Fr (bE fr dst r=aS))(k:SQ P call fl ops l aS σ K) :
  SQ P call fl ops (⟨dst,.fieldAddr t x f,ty,pos,edges,guard⟩::l) fr σ K:=SQ.fieldAddr hw.h hx hr.h hf.h k
theorem SL.field{f:Nat}(hw:Wt (Region.wanted ⟨dst,.field t x f,ty,pos,edges,guard⟩ (bR ops fr)=true))(hx:cP fr x=some p)(hr:By (F6 P t p f=some r))(hf:Fr (bE fr dst r=aS))(k:SQ P call fl ops l aS σ K) :
  SQ P call fl ops (⟨dst,.field t x f,ty,pos,edges,guard⟩::l) fr σ K:=SQ.field hw.h hx hr.h hf.h k
theorem SL.indexAddr(hw:Wt (Region.wanted ⟨dst,.indexAddr t x y,ty,pos,edges,guard⟩ (bR ops fr)=true))(hx:cP fr x=some p)(hy:cP fr y=some q)(hr:By (jZ P t p q=some r))(hf:Fr (bE fr dst r=aS))(k:SQ P call fl ops l aS σ K) :
  SQ P call fl ops (⟨dst,.indexAddr t x y,ty,pos,edges,guard⟩::l) fr σ K:=SQ.indexAddr hw.h hx hy hr.h hf.h k
theorem SL.index(hw:Wt (Region.wanted ⟨dst,.index t x y,ty,pos,edges,guard⟩ (bR ops fr)=true))(hx:cP fr x=some p)(hy:cP fr y=some q)(hr:By (zL P t p q=some r))(hf:Fr (bE fr dst r=aS))(k:SQ P call fl ops l aS σ K) :
  SQ P call fl ops (⟨dst,.index t x y,ty,pos,edges,guard⟩::l) fr σ K:=SQ.index hw.h hx hy hr.h hf.h k
theorem SL.extract{i:Nat}{vs:Gc}(hw:Wt (Region.wanted ⟨dst,.extract x i,ty,pos,edges,guard⟩ (bR ops fr)=true))(hx:cP fr x=some (.aI vs))(hr:vs[i]?=some r)(hf:Fr (bE fr dst r=aS))(k:SQ P call fl ops l aS σ K) :
  SQ P call fl ops (⟨dst,.extract x i,ty,pos,edges,guard⟩::l) fr σ K:=SQ.extract hw.h hx hr hf.h k
theorem SL.build{parts:Array (Nat×Operand)}{ps:List (Nat×PD)}(hw:Wt (Region.wanted ⟨dst,.build t parts,ty,pos,edges,guard⟩ (bR ops fr)=true))(hx:DN fr parts.toList=some ps)(hr:By (F7 P t ps=some r))(hf:Fr (bE fr dst r=aS))(k:SQ P call fl ops l aS σ K) :
  SQ P call fl ops (⟨dst,.build t parts,ty,pos,edges,guard⟩::l) fr σ K:=SQ.build hw.h hx hr.h hf.h k
theorem SL.builtin{b:Builtin}{args:Array Operand}{ts:Array TypeId}{ps:Gc}(hw:Wt (Region.wanted ⟨dst,.call { callee:=.builtin b,args:=args,argTypes:=ts },ty,pos,edges,guard⟩ (bR ops fr)=true))(hx:zJ fr args.toList=some ps)(hr:By (j5 P b ts ps=some r))
  (hf:Fr (bE fr dst r=aS)) (k:SQ P call fl ops l aS σ K):SQ P call fl ops (⟨dst,.call { callee:=.builtin b,args:=args,argTypes:=ts },ty,pos,edges,guard⟩::l) fr σ K:=SQ.builtin hw.h hx hr.h hf.h k
theorem SL.load(hw:Wt (Region.wanted ⟨dst,.load t x,ty,pos,edges,guard⟩ (bR ops fr)=true))(hx:cP fr x=some p)(hr:By (p6 P σ t p=some r))(hf:Fr (bE fr dst r=aS))(k:SQ P call fl ops l aS σ K):SQ P call fl ops (⟨dst,.load t x,ty,pos,edges,guard⟩::l) fr σ K:=SQ.load hw.h hx hr.h hf.h k
theorem SL.store(hw:Wt (Region.wanted ⟨dst,.store t x y,ty,pos,edges,guard⟩ (bR ops fr)=true))(hx:cP fr x=some p)(hy:cP fr y=some q)(hr:By (s9 P fl σ t p q=some σ1))(hf:Fr (bE fr dst (.aI [])=aS))(k:SQ P call fl ops l aS σ1 K) :
  SQ P call fl ops (⟨dst,.store t x y,ty,pos,edges,guard⟩::l) fr σ K:=SQ.store hw.h hx hy hr.h hf.h k
theorem SL.alloc{p':PD}(hw:Wt (Region.wanted ⟨dst,.alloc t,ty,pos,edges,guard⟩ (bR ops fr)=true))(hx:By (eR P t=some p))(hp:p.cells.all PD.plain=true)(hb:By (boxed t p=p'))(hr:Ns (σ++[.box p']=σ1)){n:Nat}(hn:Ns (σ.length=n))(hf:Fr (bE fr dst (.ptr n 0)=aS))(k:SQ P call fl ops l aS σ1 K) :
  SQ P call fl ops (⟨dst,.alloc t,ty,pos,edges,guard⟩::l) fr σ K:=SQ.alloc hw.h hx.h hp hb.h hr.h hn.h hf.h k
theorem SL.box(hw:Wt (Region.wanted ⟨dst,.box t x,ty,pos,edges,guard⟩ (bR ops fr)=true))(hx:cP fr x=some p)(hp:p.cells.all PD.plain=true)(hr:Ns (σ++[.box p]=σ1)){n:Nat}(hn:Ns (σ.length=n))(hf:Fr (bE fr dst (.ptr n 0)=aS))(k:SQ P call fl ops l aS σ1 K) :
  SQ P call fl ops (⟨dst,.box t x,ty,pos,edges,guard⟩::l) fr σ K:=SQ.box hw.h hx hp hr.h hn.h hf.h k
theorem SL.buildSlice{len:Nat}{parts:Array (Nat×Operand)}{ps:List (Nat×PD)}(hw:Wt (Region.wanted ⟨dst,.buildSlice t len parts,ty,pos,edges,guard⟩ (bR ops fr)=true))(hx:DN fr parts.toList=some ps)(hr:By (uL P t len (ps.map λq=>(q.1,q.2.strip))=some r))
  (hf:Fr (bE fr dst r=aS)) (k:SQ P call fl ops l aS σ K):SQ P call fl ops (⟨dst,.buildSlice t len parts,ty,pos,edges,guard⟩::l) fr σ K:=SQ.buildSlice hw.h hx hr.h hf.h k
theorem SL.append(hw:Wt (Region.wanted ⟨dst,.call { callee:=.builtin .append,args:=#[x,y],argTypes:=#[t,t] },ty,pos,edges,guard⟩ (bR ops fr)=true))(hx:cP fr x=some p)(hy:cP fr y=some q)
  (hr:By ((if lE t fr.length=true then fR P fr.length fl σ t p q else gH P fl σ t p q.strip)=some (r,σ1))) (hf:Fr (bE fr dst r=aS)) (k:SQ P call fl ops l aS σ1 K):SQ P call fl ops (⟨dst,.call { callee:=.builtin .append,args:=#[x,y],argTypes:=#[t,t] },ty,pos,edges,guard⟩::l) fr σ K:=SQ.append hw.h hx hy hr.h hf.h k
theorem SL.BC{g:Operand}{args:Array Operand}{ts:Array TypeId}{f:FuncId}{cap ps:Gc}(hw:Wt (Region.wanted ⟨dst,.call { callee:=.value g,args:=args,argTypes:=ts },ty,pos,edges,guard⟩ (bR ops fr)=true))(hg:cP fr g=some (.func f cap))
  (hx:zJ fr args.toList=some ps) (hr:By (call fl (.inl f) (ps++cap) σ=some (r,σ1))) (hf:Fr (bE fr dst r=aS)) (k:SQ P call fl ops l aS σ1 K):SQ P call fl ops (⟨dst,.call { callee:=.value g,args:=args,argTypes:=ts },ty,pos,edges,guard⟩::l) fr σ K:=SQ.BC hw.h hg hx hr.h hf.h k
theorem SL.pass{op:Op}{g:Nat×Bool}(hw:Wt (Region.wanted ⟨dst,op,ty,pos,edges,some g⟩ (bR ops fr)=false))(hf:Fr (bE fr dst (.aI [])=aS))(k:SQ P call fl ops l aS σ K):SQ P call fl ops (⟨dst,op,ty,pos,edges,some g⟩::l) fr σ K:=
 SQ.pass (o:=⟨dst,op,ty,pos,edges,some g⟩) hw.h hf.h k
def DJ(ops:Array Oper):Bool:=ops.toList.all λo=>match o.op with
 |.call { callee:=.value (.tmp _),.. }=>false
 |_=>true
theorem WL.zF{id:Nat}{y:Code}(_hs:DJ ops=true)(h:SQ P (fI E) fl ops ops.toList fr σ (λfr' σ'=>Wp P E rd y fl fr' ms σ' Q)):Wp P E rd (.seq (.region id ops false) y) fl fr ms σ Q:=by
 obtain⟨fr',σ',h1,h2⟩:=h.ex;exact .seq (.region h1 (.normal h2))
theorem WL.I1{id:Nat}{y:Code}(hU:aH E)(_hd:DJ ops=true)(hs:(uJ ops&&vR ops)=true)(h:SQ P (kJ E) fl ops ops.toList fr σ (λfr' σ'=>Wp P E rd y fl fr' ms σ' Q)):Wp P E rd (.seq (.region id ops true) y) fl fr ms σ Q:=by
 obtain⟨fr',σ',h1,h2⟩:=h.ex;exact .seq (.I1 hU hs h1 (.normal h2))
theorem WL.aAz{id:Nat}(_hs:DJ ops=true)(h:SQ P (fI E) fl ops ops.toList fr σ (λfr' σ'=>Q ⟨.normal,fr',ms,σ'⟩)):Wp P E rd (.region id ops false) fl fr ms σ Q:=.mZ h
theorem WL.ct{g:Operand}{x y:Code}(hg:cP fr g=some (.bool true))(h1:Wp P E rd x fl fr ms σ Q):Wp P E rd (.cond g x y) fl fr ms σ Q:=.cond_true (fJ hg) h1
theorem WL.cf{g:Operand}{x y:Code}(hg:cP fr g=some (.bool false))(h1:Wp P E rd y fl fr ms σ Q):Wp P E rd (.cond g x y) fl fr ms σ Q:=.cond_false (fJ hg) h1
theorem j6{c:Prop}{σ σ':Gb}{fr:Gc}{A:(Nat->PD)->Gc}(hc:c)(h:fr=A (λn=>fr.getD n (.aI [])))(hs:σ=σ'):∃g:Nat->PD,c/\fr=A g/\σ=σ':=⟨_,hc,h,hs⟩
end
theorem cF{c:Prop}{σ σ':Gb}{fr:Gc}{A:(Nat->PD)->Gc}(hc:c)(h:fr=A (λn=>fr.getD n (.aI [])):=by(first|rfl|(simp[];repeat(first|rfl|(apply And.intro)))|(simp[];done)))(hs:σ=σ':=by(first|rfl|(simp[];repeat(first|rfl|(apply And.intro)))|(simp[];done))):∃g:Nat->PD,c/\fr=A g/\σ=σ':=⟨_,hc,h,hs⟩
theorem eS{X c:Prop}{σ σ':Gb}{fr:Gc}{A:(Nat->PD)->Gc}(hc:c)(gx:X)(h:X->fr=A (λn=>fr.getD n (.aI [])):=by(intro gx;first|rfl|(simp[gx];repeat(first|rfl|(apply And.intro)))|(simp[gx];done)))(hs:X->σ=σ':=by(intro gx;first|rfl|(simp[gx];repeat(first|rfl|(apply And.intro)))|(simp[gx];done))):∃g:Nat->PD,c/\fr=A g/\σ=σ':=⟨_,hc,h gx,hs gx⟩
end
section
section
variable{P:Program}{call:dA}{fl:Nat}{ops:Gg}
theorem SL.aHj{x:Operand}{id ver off:Nat}{dst:Option Tmp}{ty:TypeId}{pos:String}{edges:Array Edge}{guard:Option (Tmp×Bool)}{l:List Oper}{fr aS:Gc}{σ:Gb}{K:List PD->List aB->Prop}(hw:Wt (Region.wanted ⟨dst,.nilCheck x,ty,pos,edges,guard⟩ (bR ops fr)=true))(hx:cP fr x=some (.dH id ver off))(hf:Fr (bE fr dst (.dH id ver off)=aS))(k:SQ P call fl ops l aS σ K) :
  SQ P call fl ops (⟨dst,.nilCheck x,ty,pos,edges,guard⟩::l) fr σ K:=
 .step hw.h (p8 rfl (by simp only[eK,fJ hx])) (hf.h▸k)
end
end
theorem WL.aAA{P:Program}{E:aE}{rd:Option Nat}{fl:Nat}{fr:Gc}{ms:List Nat}{σ:Gb}{Q:PO->Prop}{ops:Gg}{id:Nat}(hU:aH E)(_hd:DJ ops=true)(hs:(uJ ops&&vR ops)=true)(h:SQ P (kJ E) fl ops ops.toList fr σ (λfr' σ'=>Q ⟨.normal,fr',ms,σ'⟩)) :
  Wp P E rd (.region id ops true) fl fr ms σ Q:=.aHr hU hs h
theorem WL.aAB{P:Program}{E:aE}{rd:Option Nat}{fl:Nat}{fr:Gc}{ms:List Nat}{σ:Gb}{Q:PO->Prop}{ops:Gg}{id:Nat}(_hd:DJ ops=true)(hs:(uJ ops&&F4 ops)=true)(h:SQ P (fI E) fl ops ops.toList fr σ (λfr' σ'=>Q ⟨.normal,fr',ms,σ'⟩)) :
  Wp P E rd (.region id ops true) fl fr ms σ Q:=.aHs hs h
section
inductive CK where
 |b
 |i (k:IntKind)
 |s
def zH(c:Bool):Option Bool->Option Bool
 |some d=>some (c&&d)
 |none=>none
def lA:List CK->List PD->List PD->Option Bool
 | [],[],[]=>some true
 |.b::ks,.bool a::xs,.bool b::ys=>zH (decide (a=b)) (lA ks xs ys)
 |.i k::ks,.int k1 a::xs,.int k2 b::ys=>if k1=k/\k2=k then zH (decide (a=b)) (lA ks xs ys)else none
 |.s::ks,.str a::xs,.str b::ys=>zH (decide (a=b)) (lA ks xs ys)
 |_,_,_=>none
def I3(pl:TypeId->Option (List CK))(P:Program):Nat->List Field->Option (List CK)
 |_,[]=>some []
 |off,f::fs=>if f.name= "_" \/ f.offset≠off then none else
  match pl f.type,cH P f.type with
  |some ks,some n=>if ks.length=n/\0<n then(match I3 pl P (off+n) fs with|some r=>some (ks++r)|none=>none)else none
  |_,_=>none
def r5(P:Program):Nat->TypeId->Option (List CK)
 |0,_=>none
 |d+1,t=>match P.underlying t with
  |some .bool=>some [.b]
  |some (.int k)=>some [.i k]
  |some .string=>some [.s]
  |some (.struct fs)=>if P.stoodInHeld t then none else I3 (r5 P d) P 0 fs.toList
  |some (.array len e)=>match r5 P d e,cH P e with
   |some ks,some n=>if ks.length=n/\0<n then some (List.replicate len ks).flatten else none
   |_,_=>none
  |_=>none
def DM(P:Program)(t:TypeId)(x:PD)(xs:List PD):Prop:=(fQ P t=some true/\x=.agg xs)\/(fQ P t=some false/\xs=[x])
theorem aAI:∀ {xs ys:Gc} {b:Bool},lA [] xs ys=some b->b=true
 | [],[],b,h=>by simp only[lA,yAb]at h;exact h.symm
 | [],_::_,_,h=>by simp[lA]at h
 |_::_,_,_,h=>by simp[lA]at h
theorem RM:∀(ks r:List CK) (xs ys:List PD) (b:Bool),lA (ks++r) xs ys=some b ->
  ∃b1 b2,lA ks (xs.take ks.length) (ys.take ks.length)=some b1/\lA r (xs.drop ks.length) (ys.drop ks.length)=some b2/\b=(b1&&b2)/\ks.length<=xs.length/\ks.length<=ys.length
 | [],r,xs,ys,b,h=>⟨true,b,rfl,h,Ai,Ai,Ai⟩
 |k::ks,r,xs,ys,b,h=>by
  have key:∀(c:Bool) (us vs:List PD),zH c (lA (ks++r) us vs)=some b->∃b1 b2,zH c (lA ks (us.take ks.length) (vs.take ks.length))=some b1/\lA r (us.drop ks.length) (vs.drop ks.length)=some b2/\b=(b1&&b2)/\ks.length<=us.length/\ks.length<=vs.length:=by
   intro c us vs hc;cases h1:lA (ks++r) us vs with
   |none=>rw[h1]at hc;cases hc
   |some d=>
    rw[h1]at hc;simp only[zH,yAb]at hc;obtain⟨b1,b2,e1,e2,e3,e4,e5⟩:=RM ks r us vs d h1;exact⟨c&&b1,b2,DI,e2,by rw[<-hc,e3,Bool.and_assoc],e4,e5⟩
  match k,xs,ys,h with
  |.b,.bool a::xs,.bool a'::ys,h=>
    exact mq
  |.i k,.int k1 a::xs,.int k2 a'::ys,h=>
    simp only[yAR,lA]at h;split at h
    .rename_i hk;obtain⟨b1,b2,e1,e2,e3,e4,e5⟩:=key _ xs ys h;exact⟨b1,b2,by simpa only[yAT,yDG,lA,yAJ hk]using e1,e2,e3,by simpa using e4,by simpa using e5⟩
    .cases h
  |.s,.str a::xs,.str a'::ys,h=>
    exact mq
section
variable{P:Program}
theorem aHq{d:Nat}{t:TypeId}{ks:List CK}(h:r5 P d t=some ks):(fQ P t=some true)\/(fQ P t=some false/\ks.length=1):=by
 cases d with
 |zero=>cases h
 |succ d=>
  unfold r5 at h;unfold fQ;split at h<;>rename_i hu<;>try simp only[hu]
  .right;simp only[yAb]at h;subst h;exact⟨trivial,rfl⟩
  .right;simp only[yAb]at h;subst h;exact⟨trivial,rfl⟩
  .right;simp only[yAb]at h;subst h;exact⟨trivial,rfl⟩
  .left;trivial
  .left;trivial
  .cases h
theorem aAJ{d:Nat}{t:TypeId}{ks:List CK}(h:r5 P d t=some ks)(hs:cH P t=some ks.length){xs:Gc}{off:Nat}(hl:off+ks.length<=xs.length):∃x,nP P t xs off=some x/\DM P t x ((xs.drop off).take ks.length):=by
 rcases aHq h with ha | ⟨ha,h1⟩
 .exact⟨_,by simp only[nP,ha,hs,hl,yAL],.inl ⟨ha,rfl⟩⟩
 .rw[h1]at hl;have hlt:off<xs.length:=Ah;refine⟨xs[off],by simp only[nP,ha,hs,yAh hlt],.inr ⟨ha,?_⟩⟩;rw[h1,yAq hlt];rfl
theorem MV:∀(d:Nat) (t:TypeId) (ks:List CK) (x y:PD) (xs ys:List PD) (b:Bool),r5 P d t=some ks->DM P t x xs->DM P t y ys->lA ks xs ys=some b->lB P d t x y=some b
 |0,_,_,_,_,_,_,_,h,_,_,_=>Ap
 |d+1,t,ks,x,y,xs,ys,b,h,hx,hy,hc=>by
  unfold r5 at h;unfold lB;have fin:∀ {z:PD} {zs:Gc},DM P t z zs->fQ P t=some true->z=.agg zs:=λhz ha=>by
   rcases hz with⟨_,e⟩ | ⟨e,_⟩
   .exact e
   .rw[ha]at e;cases e
  have one:∀ {z:PD} {zs:Gc},DM P t z zs->fQ P t=some false->zs=[z]:=λhz ha=>by
   rcases hz with⟨e,_⟩ | ⟨_,e⟩
   .rw[ha]at e;cases e
   .exact e
  split at h<;>rename_i hu<;>try simp only[hu]
  .simp only[yAb]at h;subst h;have ha:fQ P t=some false:=Dw;rw[one hx ha,one hy ha]at hc;cases x<;>cases y<;>simp only[lA,reduceCtorEq]at hc ⊢
   simpa [zH,BEq.beq]using hc
  .rename_i k;simp only[yAb]at h;subst h;have ha:fQ P t=some false:=Dw;rw[one hx ha,one hy ha]at hc;cases x<;>cases y<;>simp only[lA,reduceCtorEq]at hc ⊢
   split at hc
   .rename_i hk;rw[yAJ (hk.1.trans hk.2.symm)];simpa [zH,BEq.beq]using hc
   .cases hc
  .simp only[yAb]at h;subst h;have ha:fQ P t=some false:=Dw;rw[one hx ha,one hy ha]at hc;cases x<;>cases y<;>simp only[lA,reduceCtorEq]at hc ⊢
   simp only[zH,yDj,yAb]at hc;rw[<-hc];congr 1;rw[Bool.eq_iff_iff];simp
  .rename_i fs;split at h
   .cases h
   .rename_i hst;have ha:fQ P t=some true:=Dw;obtain rfl:=fin hx ha;obtain rfl:=fin hy ha;simp only[hst,yAx,yAN];have key:∀(fs:List Field) (off:Nat) (r:List CK) (b:Bool),I3 (r5 P d) P off fs=some r->lA r (xs.drop off) (ys.drop off)=some b->zI (lB P d) P xs ys fs=some b:=by
     intro fs
     induction fs with
     |nil=>
      intro off r b hr hb;simp only[I3,yAb]at hr;subst hr;unfold zI;rw[aAI hb]
     |cons f fs ih=>
      intro off r b hr hb;simp only[I3]at hr;split at hr
      .cases hr
      .rename_i hn;have xH:¬f.name= "_" := λe=>hn (.inl e)
       have hn2:f.offset=off:=by
        rcases Nat.decEq f.offset off with e|e
        .exact absurd (.inr e) hn
        .exact e
       split at hr
       .rename_i ks n h1 h2;split at hr
        .rename_i hlen;split at hr
         .rename_i r' h3;simp only[yAb]at hr;subst hr;obtain⟨b1,b2,e1,e2,e3,e4,e5⟩:=RM _ _ _ _ _ hb;obtain⟨hlen,hpos⟩:=hlen;have hpart:∀ {zs:Gc},ks.length<=(zs.drop off).length->∃x,nP P f.type zs off=some x/\DM P f.type x ((zs.drop off).take ks.length):=by
           intro zs hz;exact uc
          obtain⟨x1,p1,c1⟩:=hpart e4;obtain⟨y1,p2,c2⟩:=hpart e5;have q:=MV d f.type ks x1 y1 _ _ b1 h1 c1 c2 e1;unfold zI;rw[yAI xH,hn2];simp only[p1,p2,q];rw[yBD,yBD,hlen]at e2;have q2:=ih (off+n) r' b2 h3 e2;exact tc
         .cases hr
        .cases hr
       .cases hr
    exact key fs.toList 0 ks b h (by simpa using hc)
  .rename_i len e;split at h
   .rename_i ks' n h1 h2;split at h
    .rename_i hlen;simp only[yAb]at h;subst h;have ha:fQ P t=some true:=Dw;obtain rfl:=fin hx ha;obtain rfl:=fin hy ha;simp only[h2];have key:∀(m i:Nat) (b:Bool),lA (List.replicate m ks').flatten (xs.drop (i*n)) (ys.drop (i*n))=some b->BE (lB P d e) P e n xs ys i m=some b:=by
      intro m
      induction m with
      |zero=>
       intro i b hb;unfold BE;simp only[List.replicate_zero,List.flatten_nil]at hb;rw[aAI hb]
      |succ m ih=>
       intro i b hb;rw[List.replicate_succ,yBq]at hb;obtain⟨b1,b2,e1,e2,e3,e4,e5⟩:=RM _ _ _ _ _ hb;obtain⟨hlen,hpos⟩:=hlen;have hpart:∀ {zs:Gc},ks'.length<=(zs.drop (i*n)).length->∃x,nP P e zs (i*n)=some x/\DM P e x ((zs.drop (i*n)).take ks'.length):=by
        intro zs hz;exact uc
       obtain⟨x1,p1,c1⟩:=hpart e4;obtain⟨y1,p2,c2⟩:=hpart e5;have q:=MV d e ks' x1 y1 _ _ b1 h1 c1 c2 e1;unfold BE;simp only[p1,p2,q];rw[yBD,yBD,hlen,<-yBU]at e2;have q2:=ih (i+1) b2 e2;exact tc
     exact key len 0 b (by simpa using hc)
    .cases h
   .cases h
  .cases h
theorem MW{t:TypeId}{ks:List CK}{xs ys:Gc}{b:Bool}(hg:P.eqGuardType P.depth t=false)(h:r5 P 12 t=some ks)(ha:fQ P t=some true)(hc:lA ks xs ys=some b) :
  dW P .eql t (.agg xs) (.agg ys)=some (.bool b):=by
 exact ot
theorem MY{t:TypeId}{ks:List CK}{xs ys:Gc}{b:Bool}(hg:P.eqGuardType P.depth t=false)(h:r5 P 12 t=some ks)(ha:fQ P t=some true)(hc:lA ks xs ys=some b) :
  dW P .neq t (.agg xs) (.agg ys)=some (.bool (!b)):=by
 exact ot
end
end
section
section
variable{α:Type}{e:Em α}{k:Nat}{tok:Tok}
def Em.MU(e:Em α):List PD->Option (List α)
 | []=>some []
 |p::ps=>match e.dec p,e.MU ps with
  |some x,some xs=>some (x::xs)
  |_,_=>none
@[simp] theorem aTJ:e.MU []=some []:=rfl
@[simp] theorem aTK{p:PD}{ps:Gc}:e.MU (p::ps)=(match e.dec p,e.MU ps with|some x,some xs=>some (x::xs)|_,_=>none):=rfl
end
end
section
open Go.RowKit
def BD(pl:TypeId->Bool)(P:Program):Nat->List Field->Option Nat
 |off,[]=>some off
 |off,f::fs=>if f.offset=off/\pl f.type=true then BD pl P (off+P.cellsOf f.type) fs else none
def rZ(P:Program):Nat->TypeId->Bool
 |0,_=>false
 |d+1,t=>match P.underlying t with
  |some .bool|some (.int _)|some .string=>P.cellsOf t==1
  |some (.slice e)=>P.cellsOf t==1&&rZ P d e&&decide (0<P.cellsOf e)
  |some (.struct fs)=>BD (rZ P d) P 0 fs.toList==some (P.cellsOf t)
  |some (.array n e)=>rZ P d e&&P.cellsOf t==n*P.cellsOf e
  |_=>false
def uK(T:TypeId->List PD->Prop):List Field->List PD->Prop
 | [],ps=>ps=[]
 |f::fs,ps=>∃a b,ps=a++b/\T f.type a/\uK T fs b
def mI(P:Program)(t:TypeId)(ps:List PD):PD:=match fQ P t with
 |some true=>.agg ps
 |_=>ps.headD (.aI [])
def Typed(P:Program):Nat->TypeId->List PD->Prop
 |0,_,_=>False
 |d+1,t,ps=>match P.underlying t with
  |some .bool=>∃b,ps=[.bool b]
  |some (.int k)=>∃n,ps=[.int k n]/\(Lit.int k n).wf=true
  |some .string=>∃s,ps=[.str s]/\s.length<=maxLen
  |some (.slice e)=>∃xs:List (List PD),xs.length<=maxLen/\(∀x∈xs,Typed P d e x)/\ps=[.slice (sz (P.cellsOf e) xs) (xs.map (mI P e)) .any]
  |some (.struct fs)=>uK (Typed P d) fs.toList ps
  |some (.array n e)=>∃xs:List (List PD),xs.length=n/\(∀x∈xs,Typed P d e x)/\ps=xs.flatten
  |_=>False
theorem uK.length{P:Program}{d:Nat}(ih:∀t ps,rZ P d t=true->Typed P d t ps->ps.length=P.cellsOf t):∀(fs:List Field) (off n:Nat) (ps:List PD),BD (rZ P d) P off fs=some n->uK (Typed P d) fs ps->off+ps.length=n
 | [],off,n,ps,h,ht=>by
   simp only[BD,yAb]at h;simp only[uK]at ht;subst ht h;rfl
 |f::fs,off,n,ps,h,ht=>by
  simp only[BD]at h;split at h
  .rename_i hf;obtain⟨a,b,rfl,ha,hb⟩:=ht;have h1:=ih _ _ hf.2 ha;have h2:=uK.length ih fs _ n b h hb;simp only[yAa];omega
  .cases h
theorem Typed.length{P:Program}:∀(d:Nat) (t:TypeId) (ps:List PD),rZ P d t=true->Typed P d t ps->ps.length=P.cellsOf t
 |0,_,_,h,_=>Ap
 |d+1,t,ps,h,ht=>by
  unfold rZ at h;unfold Typed at ht;split at h<;>rename_i hu<;>try simp only[hu]at ht
  .obtain⟨b,rfl⟩:=ht;simp at h;simp[h]
  .obtain⟨b,rfl,_⟩:=ht;simp at h;simp[h]
  .obtain⟨b,rfl,_⟩:=ht;simp at h;simp[h]
  .obtain⟨xs,_,_,rfl⟩:=ht;simp at h;simp[h]
  .simp only[yCg]at h;have:=uK.length (Typed.length d) _ 0 _ ps h ht;omega
  .rename_i n e;simp only[yAr,yCg]at h;obtain⟨xs,h1,h2,rfl⟩:=ht;rw[h.2,<-h1];have key:∀(xs:List (List PD)),(∀x∈xs,Typed P d e x)->xs.flatten.length=xs.length*P.cellsOf e:=by
    intro xs
    induction xs with
    |nil=>intro _;simp
    |cons x xs ih=>
     intro hx;rw[yBq,yAa,Typed.length d e x h.1 (hx x Ai),ih (λy hy=>hx y Ck),yAT,yBU];omega
   exact key xs h2
section
variable{H:Type}{enc:TypeId×Value->H}{P:Program}{w:World}{base:Nat}{sp:Nat->Bool}{held:Bool}
structure mO (w:World) (cs:List Value) (ps:List PD):Prop where
 F3:aV (.start w) cs ps
 one:∀v∈cs,v.oneCell'=true
theorem mO.nil:mO w [] []:=⟨⟨rfl,Ai⟩,Ai⟩
theorem mO.single{v:Value}{p:PD}(h:VR (.start w) v p)(ho:v.oneCell'=true):mO w [v] [p]:=
 ⟨⟨rfl,λi u d h1 h2=>by cases i with
   |zero=>simp at h1 h2;subst h1 h2;exact h
   |succ i=>simp at h1⟩,Cu⟩
theorem mO.append{a b:Ge}{ps qs:Gc}(h:mO w a ps)(k:mO w b qs):mO w (a++b) (ps++qs):=
 ⟨h.F3.append k.F3,λv hv=>(yBf.1 hv).elim (h.one v) (k.one v)⟩
theorem mO.agg{cs:Ge}{ps:Gc}(h:mO w cs ps):VR (.start w) (.agg cs.toArray) (.agg ps):=.agg cs ps h.F3.1 h.one h.F3.2
theorem aHo{t:TypeId}{d:Nat}{ps:Gc}(h:rZ P d t=true)(ht:Typed P d t ps):(mI P t ps).cells=ps:=by
 cases d with
 |zero=>cases h
 |succ d=>
  unfold rZ at h;unfold Typed at ht;unfold mI fQ;split at h<;>rename_i hu<;>try simp only[hu]at ht ⊢
  .obtain⟨b,rfl⟩:=ht;rfl
  .obtain⟨b,rfl,_⟩:=ht;rfl
  .obtain⟨b,rfl,_⟩:=ht;rfl
  .obtain⟨xs,_,_,rfl⟩:=ht;rfl
  .rfl
  .rfl
theorem aHp{fuel:Nat}{t:TypeId}{cs:Ge}{x:DataW H×List MemPlace}(ht:P.underlying t=some .bool)(h:DataW.trod enc P w base sp held fuel t cs=some x):∃b,cs=[.bool b]:=by
 cases fuel with
 |zero=>simp[DataW.trod]at h
 |succ n=>
  unfold DataW.trod at h;rw[ht]at h;split at h<;>simp_all
theorem MT:∀(fuel d:Nat) (t:TypeId) (cs:List Value) (x:DataW H×List MemPlace),DataW.trod enc P w base sp held fuel t cs=some x->rZ P d t=true->∃ps,Typed P d t ps/\mO w cs ps
 |_,0,_,_,_,_,h=>Ap
 |fuel,d+1,t,cs,x,hx,h=>by
  unfold rZ at h;split at h<;>rename_i hu<;>try simp only[Typed,hu]
  .obtain⟨b,rfl⟩:=aHp hu hx;exact⟨_,⟨b,rfl⟩,mO.single (.bool _) rfl⟩
  .rename_i k;obtain⟨n,rfl,_,hw⟩:=DataW.trod_int hu hx;exact⟨_,⟨n,rfl,hw⟩,mO.single (.int _ _) rfl⟩
  .obtain⟨s,rfl,_,hs⟩:=DataW.trod_string hu hx;refine⟨_,⟨s.data.toList,rfl,by rw[yBj];exact hs⟩,mO.single ?_ rfl⟩;exact uw
  .rename_i e;simp only[yAr,yCk]at h;obtain⟨⟨_,he⟩,hpos⟩:=h;rcases DataW.trod_slice hu hx with⟨rfl,_⟩ | ⟨a,len,cap,elems,rest,n,rfl,rfl,hrest⟩
   .exact⟨_,⟨[],Ai,Ai,rfl⟩,mO.single (.slice none 0 0 0 [] .any [] rfl (yAk _) (yAF _) Ai rfl Ai Ai Ai trivial) rfl⟩
   .obtain⟨_,hlc,hcm,hel,hall,_,_⟩:=hrest.2;have key:∀(k i:Nat),i+k=len->∃(ys:List (List PD)) (fl:List Value),ys.length=k/\(∀y∈ys,Typed P d e y)/\mO w fl ys.flatten/\fl.length=k*P.cellsOf e /\
      ∀(j:Nat) (v:Value),fl[j]?=some v->w.cell? (a.add (i*P.cellsOf e+j))=some v:=by
     intro k
     induction k with
     |zero=>intro i _;exact⟨[],[],rfl,Ai,mO.nil,Ai,Ai⟩
     |succ k ih=>
      intro i hi;obtain⟨ys,fl,h1,h2,h3,h4,h5⟩:=ih (i+1) Ah;have h6:=hall i Ah;have hlt:i<elems.length:=Ah;rw[yAh hlt,Option.bind_eq_some_iff]at h6;obtain⟨vs,h7,h8⟩:=h6;obtain⟨_,h9,h10⟩:=World.cells?_some h7;obtain⟨qs,h11,h12⟩:=MT n d e _ _ h8 he;refine⟨qs::ys,vs++fl,by simp[h1],by simpa using⟨h11,h2⟩,by rw[yBq];exact h12.append h3,by rw[yAa,h9,h4,yBU];omega,λj v hv=>?_⟩;rcases yCh j vs.length with hj|hj
      .rw[yAg hj]at hv;have:=h10 j Ah;rw[DL]at this;rw[this,hv]
      .rw[yBS hj]at hv;have:=h5 _ v hv;rw[h9]at this hj;rw[<-this,yBU]
       congr 2
       omega
    obtain⟨ys,fl,h1,h2,h3,h4,h5⟩:=key len 0 Ah;have hcells:∀y∈ys,(mI P e y).cells=y:=λy hy=>aHo he (h2 y hy)
    have hflat:(ys.map (mI P e)).flatMap PD.cells=ys.flatten:=by
     have:∀(ys:List (List PD)),(∀y∈ys,(mI P e y).cells=y)->(ys.map (mI P e)).flatMap PD.cells=ys.flatten:=by
      intro ys
      induction ys with
      |nil=>intro _;rfl
      |cons y ys ih=>
       intro hy;rw[yAS,yBr,yBq,hy y Ai,ih (λz hz=>hy z (by simp[hz]))]
     exact this ys hcells
    refine⟨_,⟨ys,Ah,h2,rfl⟩,mO.single (.slice (some a) len cap _ _ .any fl (by simp[h1]) hlc hcm ?_ ?_ h3.one ?_ ?_ trivial) rfl⟩
    .intro x hx;obtain⟨y,hy,rfl⟩:=yAw.1 hx;rw[hcells y hy,Typed.length d e y he (h2 y hy),s7 (List.ne_nil_of_mem hy)]
    .rw[h4];cases ys with
     |nil=>simp at h1;subst h1;simp
     |cons y ys=>simp[sz]
    .intro j v hv;have:=h5 j v hv;rw[yDi,yAp]at this;exact⟨a,rfl,this,aAH _⟩
    .intro j v p hv hp;rw[hflat]at hp;exact h3.F3.2 j v p hv hp
  .rename_i fs;simp only[yCg]at h;obtain⟨xs,n,rfl,_,hl,hn,hf⟩:=DataW.trod_struct hu hx;have key:∀(gs:List Field) (i:Nat) (off m:Nat),gs=fs.toList.drop i->BD (rZ P d) P off gs=some m->m<=cs.length->off<=m/\∃ps,uK (Typed P d) gs ps/\mO w ((cs.drop off).take (m-off)) ps:=by
    intro gs
    induction gs with
    |nil=>
     intro i off m _ hp hm;simp only[BD,yAb]at hp;subst hp;exact⟨yAk _,[],rfl,by simpa using mO.nil⟩
    |cons g gs ih=>
     intro i off m hg hp hm;simp only[BD]at hp;split at hp
     .rename_i hc;have hgi:fs[i]?=some g:=by
       have:(fs.toList.drop i)[0]?=some g:=by rw[<-hg];rfl
       exact cr
      have hgs:gs=fs.toList.drop (i+1):=by
       rw[<-List.tail_drop,<-hg];rfl
      obtain⟨h1,ps,h2,h3⟩:=ih (i+1) _ m hgs hp hm;have h4:=hf i g hgi;have hlt:i<xs.length:=by
       rw[hn];exact(yDF.1 hgi).1
      rw[yAh hlt]at h4;obtain⟨qs,h5,h6⟩:=MT n d g.type _ _ h4 hc.2;refine⟨Ah,qs++ps,⟨qs,ps,rfl,h5,h2⟩,?_⟩;rw[hc.1]at h6;have e:(cs.drop off).take (m-off)=(cs.drop off).take (P.cellsOf g.type)++(cs.drop (off+P.cellsOf g.type)).take (m-(off+P.cellsOf g.type)):=by
       have:m-off=P.cellsOf g.type+(m-(off+P.cellsOf g.type)):=Ah;rw[this,List.take_add,yBD]
      rw[e];exact h6.append h3
     .cases hp
   obtain⟨_,ps,h1,h2⟩:=key fs.toList 0 0 _ Ai h Ah;refine⟨ps,h1,?_⟩;simpa [<-hl]using h2
  .rename_i n e;simp only[yAr,yCg]at h;obtain⟨xs,m,rfl,_,hl,hn,hf⟩:=DataW.trod_array hu hx;have key:∀(k i:Nat),i+k=n->∃ys:List (List PD),ys.length=k/\(∀y∈ys,Typed P d e y)/\mO w (cs.drop (i*P.cellsOf e)) ys.flatten:=by
    intro k
    induction k with
    |zero=>
     intro i hi;have:cs.drop (i*P.cellsOf e)=[]:=yAs (by rw[hl,h.2];simp at hi;subst hi;omega);exact⟨[],rfl,Ai,by rw[this];exact mO.nil⟩
    |succ k ih=>
     intro i hi;obtain⟨ys,h1,h2,h3⟩:=ih (i+1) Ah;have h4:=hf i Ah;have hlt:i<xs.length:=Ah;rw[yAh hlt]at h4;obtain⟨qs,h5,h6⟩:=MT m d e _ _ h4 h.1;refine⟨qs::ys,by simp[h1],by simpa using⟨h5,h2⟩,?_⟩;rw[yBq];have e':cs.drop (i*P.cellsOf e)=(cs.drop (i*P.cellsOf e)).take (P.cellsOf e)++cs.drop ((i+1)*P.cellsOf e):=by
      rw[yBU,<-yBD,List.take_append_drop]
     rw[e'];exact h6.append h3
   obtain⟨ys,h1,h2,h3⟩:=key n 0 Ah;exact⟨_,⟨ys,h1,h2,rfl⟩,Fg⟩
  .cases h
end
end
section
open Go.RowKit
section
variable{H:Type}{enc:TypeId×Value->H}{P:Program}{w:World}{base:Nat}{sp:Nat->Bool}{held:Bool}
theorem aAj{n:Nat}{t:TypeId}{v:Value}{d:DataW H}{ms:List MemPlace}(hp:rZ P n t=true)(hv:Value.okWide P w .any base t v)(h:DataW.Trod enc P w 0 sp held t v d ms) :
  ∃qs,Typed P n t qs/\VR (.start w) v (mI P t qs):=by
 obtain⟨fuel,h⟩:=h;obtain⟨qs,h1,h2⟩:=MT fuel n t _ _ h hp;refine⟨qs,h1,?_⟩;have hlen:=Typed.length n t qs hp h1;cases n with
 |zero=>cases hp
 |succ n=>
  have cell:fQ P t=some false->(∀cs,v≠.agg cs)->VR (.start w) v (mI P t qs):=λha hna=>by
   have hc:v.cells=#[v]:=by
    cases v<;>first|rfl|exact absurd rfl (hna _)
   rw[hc]at h2;obtain⟨hl,hr⟩:=h2.F3
   match qs,hl with
   | [q],_=>
     have:=hr 0 v q rfl rfl;simpa only[mI,ha,List.headD_cons]using this
  have row:fQ P t=some true->(∃cs,v=.agg cs)->VR (.start w) v (mI P t qs):=λha ⟨cs,e⟩=>by
   subst e;have:=h2.agg;simpa only[mI,ha,Value.cells]using this
  unfold rZ at hp;unfold Value.okWide at hv;split at hp<;>rename_i hu
  .exact fe
  .exact fe
  .exact fe
  .exact fe
  .exact tw
  .exact tw
  .cases hp
end
section
variable{P:Program}
theorem mJ{d:Nat}{t:TypeId}{k:IntKind}{qs:Gc}(hu:P.underlying t=some (.int k))(h:Typed P (d+1) t qs):∃n,qs=[.int k n]/\(Lit.int k n).wf=true:=by
 simpa only[Typed,hu]using h
theorem aAr{d:Nat}{t:TypeId}{qs:Gc}(hu:P.underlying t=some .bool)(h:Typed P (d+1) t qs):∃b,qs=[.bool b]:=by
 simpa only[Typed,hu]using h
theorem FU{d:Nat}{t:TypeId}{fs:Array Field}{qs:Gc}(hu:P.underlying t=some (.struct fs))(h:Typed P (d+1) t qs):uK (Typed P d) fs.toList qs:=by
 simpa only[Typed,hu]using h
theorem MH{α:Type}{em:Em α}{R:α->Prop}{d:Nat}{t e:TypeId}{k:Nat}{qs:Gc}(hu:P.underlying t=some (.slice e))(hk:P.cellsOf e=k)(hf:∀x,Typed P d e x->∃y,mI P e x=em.aA y/\R y)(h:Typed P (d+1) t qs) :
  ∃ys,qs=[(em.list k).aA ys]/\ys.length<=maxLen/\∀y∈ys,R y:=by
 simp only[Typed,hu]at h;obtain⟨xs,h1,h2,rfl⟩:=h;have key:∀xs:List (List PD),(∀x∈xs,Typed P d e x)->∃ys:List α,ys.length=xs.length/\xs.map (mI P e)=ys.map em.aA/\∀y∈ys,R y:=by
  intro xs
  induction xs with
  |nil=>intro _;exact⟨[],rfl,rfl,Ai⟩
  |cons x xs ih=>
   intro hx;obtain⟨ys,h3,h4,h5⟩:=ih (λz hz=>hx z (by simp[hz]));obtain⟨y,h6,h7⟩:=hf x (hx x Ai);exact⟨y::ys,by simp[h3],by simp[h4,h6],by simpa using⟨h7,h5⟩⟩
 obtain⟨ys,h3,h4,h5⟩:=key xs h2;refine⟨ys,?_,Ah,h5⟩;rw[aW,h4,hk];have:sz k xs=sz k ys:=by simp only[sz,h3]
 rw[this]
theorem DC{t:TypeId}{qs:Gc}(ha:fQ P t=some true):mI P t qs=.agg qs:=by simp only[mI,ha]
theorem kF{T:TypeId->List PD->Prop}{f:Field}{fs:List Field}{ps:Gc}(h:uK T (f::fs) ps):∃a b,ps=a++b/\T f.type a/\uK T fs b:=h
theorem FV{T:TypeId->List PD->Prop}{ps:Gc}(h:uK T [] ps):ps=[]:=h
theorem wf_i64{z:Int}(hz:(Lit.int .i64 z).wf=true):-9223372036854775808<=z/\z<=9223372036854775807:=by
 exact qw
theorem wf_u8{z:Int}(hz:(Lit.int .u8 z).wf=true):0<=z/\z<=255:=by
 exact qw
theorem aG7{c:Cx}:aV c [] []:=⟨rfl,Ai⟩
theorem aAl{c:Cx}{v:Value}{p:PD}{vs:Ge}{ps:Gc}(h:VR c v p)(hs:aV c vs ps):aV c (v::vs) (p::ps):=
 ⟨by simp[hs.1],λi u d hu hd=>by
  cases i with
  |zero=>simp at hu hd;subst hu hd;exact h
  |succ i=>exact hs.2 i u d Fe Fb⟩
end
end
section
section
variable{α:Type}{l r:List α}{x y:α}{n:Nat}
end
end
@[simp] theorem aTI{α:Type}{k:Nat}{xs:List α}:sz (sz k xs) xs=sz k xs:=by
  unfold sz;split<;>rfl
def kK(σ:List aB)(tok:Tok)(e:TypeId)(k n:Nat):Prop:=(n=0/\tok=.full)\/(0<n/\∃id,tok=.own id/\σ[id]?=some (.own e k n))
def Tok.not(tok:Tok)(id:Nat):Prop:=tok≠.own id
theorem kK.aQ{σ σ':Gb}{tok:Tok}{e:TypeId}{k n:Nat}(h:kK σ tok e k n)(hk:∀id o,tok=.own id->σ[id]?=some o->σ'[id]?=some o):kK σ' tok e k n:=by
 rcases h with h | ⟨h0,id,h1,h2⟩
 .exact .inl h
 .exact .inr ⟨h0,id,h1,hk id _ h1 h2⟩
theorem kK.more{σ τ:Gb}{tok:Tok}{e:TypeId}{k n:Nat}(h:kK σ tok e k n):kK (σ++τ) tok e k n:=
 h.aQ λid o _ h=>by
  exact jw
theorem DK{P:Program}{σ:Gb}{t e:TypeId}{k b s:Nat}{xs:Gc}{p:PD}{tk tok:Tok}(hu:P.underlying t=some (.slice e))(hi:iM P e=some (k,b))(hs:xs=[]\/s=k)(hr:kK σ tok e k xs.length)
  (hm:xs.length+1<=100000000000000) (hb:(xs.length+1)*b<=140737488355328) :
  ∃fZ σ',gH P 0 σ t (.slice s xs tok) (.slice k [p] tk)=some (.slice k (xs++[p]) fZ,σ')/\kK σ' fZ e k (xs.length+1)/\(∀id o,tok≠.own id->σ[id]?=some o->σ'[id]?=some o)/\(∀id,fZ=.own id->tok=.own id\/id=σ.length):=by
 unfold iM at hi;split at hi
 .rename_i i h1;split at hi
  .rename_i z h2;split at hi
   .rename_i h3;simp only[yAb,yAc]at hi;obtain⟨rfl,rfl⟩:=hi;have hs':xs.length=0\/s=i.size:=hs.imp (λh=>Bu) (λh=>h);have e1:[p].length=1:=rfl;have hmm:xs.length+1<=maxLen:=Ay;rcases hr with⟨hn,rfl⟩ | ⟨hpos,id,rfl,hid⟩
    .refine⟨.own σ.length,σ++[.own e i.size (xs.length+1)],?_,.inr ⟨Ah,_,rfl,yAB⟩,λid o _ h=>?_,λid h=>?_⟩
     .simp only[gH,hu,h1,h2,e1,hs',h3.2,h3.1,hmm,hb,yCa,yBy,yAL,yDE,yAN]
     .rw[yAg (yA.1 h).1];exact h
     .right;simpa using h.symm
    .have hlt:=(yA.1 hid).1;have hsz:s=i.size:=hs'.resolve_left Ah;refine⟨.own id,σ.set id (.own e i.size (xs.length+1)),?_,.inr ⟨Ah,id,rfl,by rw[yAj hlt]⟩,λj o hj h=>?_,λj h=>.inl h⟩
     .simp only[gH,hu,h1,h2,e1,h3.2,h3.1,hmm,hb,yCa,yBy,yAL,yDE,yAN,hsz,yAF,hid]
     .have hne:id≠j:=λe=>hj Da
      rw[yAd hne];exact h
   .cases hi
  .cases hi
 .cases hi
theorem aHm{P:Program}{σ:Gb}{t e:TypeId}{k b s:Nat}{p:PD}{tk:Tok}(hu:P.underlying t=some (.slice e))(hi:iM P e=some (k,b))(hb:b<=140737488355328) :
  gH P 0 σ t (.slice s [] .full) (.slice k [p] tk)=some (.slice k [p] (.own σ.length),σ++[.own e k 1]):=by
 unfold iM at hi;split at hi
 .rename_i i h1;split at hi
  .rename_i z h2;split at hi
   .rename_i h3;simp only[yAb,yAc]at hi;obtain⟨rfl,rfl⟩:=hi;have hm:0+1<=maxLen:=Ay;have hb':(0+1)*i.bytes<=140737488355328:=Ah;simp[gH,hu,h1,h2,h3.2,h3.1];exact⟨Ay,hb⟩
   .cases hi
  .cases hi
 .cases hi
theorem aHn{P:Program}{σ:Gb}{t e:TypeId}{id k b:Nat}{xs:Gc}{p:PD}{tk:Tok}(hu:P.underlying t=some (.slice e))(hi:iM P e=some (k,b))(hr:σ[id]?=some (.own e k xs.length))
  (hm:xs.length+1<=100000000000000) (hb:(xs.length+1)*b<=140737488355328) :
  gH P 0 σ t (.slice k xs (.own id)) (.slice k [p] tk)=some (.slice k (xs++[p]) (.own id),σ.set id (.own e k (xs.length+1))):=by
 unfold iM at hi;split at hi
 .rename_i i h1;split at hi
  .rename_i z h2;split at hi
   .rename_i h3;simp only[yAb,yAc]at hi;obtain⟨rfl,rfl⟩:=hi;have e1:[p].length=1:=rfl;have hmm:xs.length+1<=maxLen:=Ay;simp only[gH,hu,h1,h2,e1,h3.2,h3.1,hmm,hb,yCa,yBy,yAL,yDE,yAN,yAF,hr]
   .cases hi
  .cases hi
 .cases hi
section
def I2:Op->Bool
 |.box ..=>true
 |.call { callee:=.builtin .append,.. }=>true
 |.call { callee:=.builtin .copy,.. }=>true
 |_=>false
def F2(ops:Array Oper):Bool:=s6 ops.toList [] λms=>
 (List.range ops.size).all λi=>!fA I2 ops.toList i||kI ops.toList ms i
section
variable{P:Program}{E:aE}{fl:Nat}{fr:Gc}{σ:Gb}
theorem aHk(hU:aH E){tg:FuncId ⊕ Nat}{args:Gc}{x:PD×Gb}(h:kJ E fl tg args σ=some x):fI E fl tg args σ=some x:=by
 cases tg with
 |inr id=>cases h
 |inl f=>
  simp only[kJ]at h;split at h
  .rename_i g hg;split at h
   .rename_i p hp;simp only[yAb]at h;subst h;simp only[fI,hg];exact hU f g args p hg hp fl σ
   .cases h
  .cases h
theorem aHl(hU:aH E){op:Op}{x:PD×Gb}(h:cT P (kJ E) fl fr σ op=some x):cT P (fI E) fl fr σ op=some x:=by
 unfold cT at *;cases hc:gP fr op with
 |some q=>
  obtain⟨tg,args⟩:=q;simp only[hc]at h ⊢;exact aHk hU h
 |none=>
  simp only[hc]at h ⊢;exact h
theorem MO(hU:aH E){ops:Gg}:∀(l:List Oper) (i:Nat) (fr:List PD) (σ:List aB) (x:Gc×List aB),ops.toList.drop i=l->F2 ops=true ->
  eF P (kJ E) fl ops l fr σ=some x->mN P (fI E) fl ops (flags ops i l) fr σ=some x
 | [],_,_,_,_,_,_,h=>h
 |o::l,i,fr,σ,x,hd,hm,h=>by
  have ho:ops.toList[i]?=some o:=by
   exact xx
  have hd':ops.toList.drop (i+1)=l:=Ff;have hi:i<ops.size:=by
   have:=(yA.1 ho).1;exact cr
  have hown:I2 o.op=false\/xG ops i=true:=by
   exact lz
  simp only[eF]at h;simp only[flags,mN];split at h
  .rename_i hw;rw[yAJ hw];split at h
   .rename_i p σ1 hp;cases hf:(!eM o.op||xG ops i)with
    |true=>
     simp only[aHl hU hp];exact MO hU l (i+1) _ _ _ hd' hm h
    |false=>
     simp only[yDX,Bool.not_eq_false']at hf;obtain⟨iK,kY⟩:=hf;rw[kY]at hown;have hop:I2 o.op=false:=by simpa using hown
     obtain⟨e1,e2⟩:=MP (P:=P) hU (eJ:=max fl σ.length) (op:=o.op) (by
      cases hq:o.op with
      |box t x=>rw[hq]at hop;cases hop
      |call c=>
       obtain⟨callee,args,ts⟩:=c;cases callee with
       |builtin b=>cases b<;>first|rfl|(rw[hq]at hop;cases hop)
       |value f=>rfl
       |invoke r m=>rfl
      |_=>rfl) iK hp
     simp only at e2;subst e2;simp only[e1,yCl,yAl];exact MO hU l (i+1) _ _ _ hd' hm h
   .cases h
  .rename_i hw;rw[yAI hw];exact MO hU l (i+1) _ _ _ hd' hm h
theorem WL.aAD{rd:Option Nat}{ms:List Nat}{Q:PO->Prop}{ops:Gg}{id:Nat}(hU:aH E)(_hd:DJ ops=true)(hs:(uJ ops&&F2 ops)=true)(h:SQ P (kJ E) fl ops ops.toList fr σ (λfr' σ'=>Q ⟨.normal,fr',ms,σ'⟩)) :
  Wp P E rd (.region id ops true) fl fr ms σ Q:=by
 simp only[yAr,MQ]at hs;obtain⟨fr',σ',h1,h2⟩:=h.ex;exact .draw hs.1 (MO hU _ 0 _ _ _ Ai hs.2 h1) h2
end
end
section
def EA(ops:Array Oper):Bool:=ops.toList.all λo=>!dF o.op||o.guard.isNone
def TP(ops:Array Oper):Bool:=s6 ops.toList [] λms=>
 vW ops ms&&(List.range ops.size).all λk=>!fA iP ops.toList k||(List.range ops.size).all λi=>!fA fB ops.toList i||!loose ms i k
section
variable{P:Program}{E:aE}{fl:Nat}{fr:Gc}{σ:Gb}
theorem aB4(hU:aH E){eJ:Nat}{σ2:Gb}{op:Op}{x:PD×Gb}(hop:(match op with
 |.box ..=>false
 |.call { callee:=.builtin .append,.. }=>false
 |.call { callee:=.builtin .copy,.. }=>false
 |_=>true)=true) (hm:eM op=true) (h:cT P (kJ E) fl fr σ op=some x):cT P (fI E) eJ fr σ2 op=some (x.1,σ2)/\x.2=σ:=by
 refine⟨?_,(MP hU (eJ:=0) hop hm h).2⟩;unfold cT at *;cases hc:gP fr op with
 |some q=>
  obtain⟨tg,args⟩:=q;simp only[hc]at h ⊢;cases tg with
  |inr id=>cases h
  |inl f=>
   simp only[kJ]at h;split at h
   .rename_i g hg;split at h
    .rename_i p hp;simp only[yAb]at h;subst h;simp only[fI,hg];exact hU f g args p hg hp eJ σ2
    .cases h
   .cases h
 |none=>
  exact fo
theorem aJv{t:TypeId}{a p:PD}(hs:List aB)(h:p6 P σ t a=some p):p6 P (σ++hs) t a=some p:=
 aBa h λid e=>by
  rw[yAg (aBb h e)]
theorem aJw{t:TypeId}{a p:PD}{σ':Gb}(hs:List aB)(h:s9 P fl σ t a p=some σ'):s9 P fl (σ++hs) t a p=some (σ'++hs):=by
 unfold s9 at h ⊢;split at h
 .rename_i id off
  by_cases h1:fl<=id
  .rw[yAJ h1]at h ⊢;cases hq:σ[id]? with
   |none=>simp[hq]at h
   |some o=>
    have hlt:id<σ.length:=(yA.1 hq).1;rw[yAg hlt,hq];rw[hq]at h;cases o with
    |box q=>
     cases hz:cH P t with
     |none=>rw[hz]at h;cases h
     |some n=>
      rw[hz]at h;simp only at h ⊢;split at h
      .rename_i hc;rw[yAJ hc];cases hset:q.setCells off p.cells with
       |none=>rw[hset]at h;cases h
       |some q'=>
        rw[hset]at h;exact vn
      .cases h
    |_=>cases h
  .rw[yAI h1]at h;cases h
 .rename_i id ver off
  by_cases h1:fl<=id
  .rw[yAJ h1]at h ⊢;cases hq:σ[id]? with
   |none=>simp[hq]at h
   |some o=>
    have hlt:id<σ.length:=(yA.1 hq).1;rw[yAg hlt,hq];rw[hq]at h;cases o with
    |row e sz fO cs=>
     cases hz:cH P t with
     |none=>rw[hz]at h;cases h
     |some n=>
      rw[hz]at h;simp only at h ⊢;split at h
      .rename_i hc;rw[yAJ hc];exact vn
      .cases h
    |_=>cases h
  .rw[yAI h1]at h;cases h
 .cases h
theorem GY(hU:aH E){n:Nat}{ops:Gg}(ms:List Nat)(hsh:∀(i:Nat) o,ops[i]?=some o->(iF o.op||fB o.op||dF o.op||qB o.op||eG o.op)=true)(hno:vR ops=true)(hsu:EA ops=true) :
  ∀(l:List Oper) (i:Nat) (fr:List PD) (σ:List aB) (x:Gc×List aB),ops.toList.drop i=l->eF P (kJ E) fl ops l fr σ=some x ->
   ∃hs tr,nQ P l=some hs/\eW P (eN P E n) fl ops ms i σ.length l fr (σ++hs)=some (tr,x.1,x.2)
 | [],_,fr,σ,x,_,h=>by
   simp only[eF,yAb]at h;subst h;exact⟨[],[],rfl,by simp[eW]⟩
 |o::l,i,fr,σ,x,hd,h=>by
  have ho:ops[i]?=some o:=by
   exact xx
  have hd':ops.toList.drop (i+1)=l:=Ff;have hmem:o∈ops.toList:=yCf.2 (yDD ho);have hshape:=hsh i o ho;have hown:=yAn.1 hno o hmem;have hsure:=yAn.1 hsu o hmem;simp only[eF]at h
  by_cases hal:dF o.op=true
  .have hg:o.guard=none:=by
    rw[hal]at hsure;simpa using hsure
   have hw:Region.wanted o (bR ops fr)=true:=by simp[Region.wanted,hg]
   rw[yAJ hw]at h;obtain⟨t,ht⟩:∃t,o.op=.alloc t:=by
    unfold dF at hal;split at hal
    .rename_i t e;exact⟨t,e⟩
    .cases hal
   rw[ht]at h;have hst:cT P (kJ E) fl fr σ (.alloc t)=(match eR P t with|some p=>if p.cells.all PD.plain then some (.ptr σ.length 0,σ++[.box (boxed t p)])else none|none=>none):=rfl;rw[hst]at h;cases hz:eR P t with
   |none=>rw[hz]at h;cases h
   |some p0=>
    rw[hz]at h;simp only at h
    by_cases hp:p0.cells.all PD.plain=true
    .rw[yAJ hp]at h;simp only at h;obtain⟨hs,tr,e1,e2⟩:=GY hU (n:=n) ms hsh hno hsu l (i+1) _ _ x hd' h;refine⟨.box (boxed t p0)::hs,⟨fr,σ++.box (boxed t p0)::hs,.ptr σ.length 0,lK fr o.op⟩::tr,?_,?_⟩
     .unfold nQ;rw[ht];simp only[hz,e1,hp,yAL]
     .simp only[eW,hw,yAL,hal];have hA:iF o.op=false:=by rw[ht];rfl
      have hp':l6 P (eN P E n) fl (kI ops.toList ms i) σ.length fr (σ++.box (boxed t p0)::hs) o.op=some (.ptr σ.length 0,σ++.box (boxed t p0)::hs):=by
       unfold l6;rw[hA,hal];simp
      rw[hp'];simp only;rw[yAa,yCX,yAi,List.singleton_append]at e2;rw[e2]
    .rw[yAI hp]at h;cases h
  .simp only[yCw]at hal;have hho:∀hs,nQ P l=some hs->nQ P (o::l)=some hs:=λhs e=>by
    unfold nQ;split
    .rename_i t ht;rw[ht]at hal;cases hal
    .exact e
   by_cases hw:Region.wanted o (bR ops fr)=true
   .rw[yAJ hw]at h;cases hp:cT P (kJ E) fl fr σ o.op with
    |none=>rw[hp]at h;cases h
    |some q=>
     obtain⟨p,σ1⟩:=q;rw[hp]at h;simp only at h;obtain⟨hs,tr,e1,e2⟩:=GY hU (n:=n) ms hsh hno hsu l (i+1) _ _ x hd' h;have key:l6 P (eN P E n) fl (kI ops.toList ms i) σ.length fr (σ++hs) o.op=some (p,σ1++hs)/\σ1.length=σ.length:=by
      have hpd:=R8 (P:=P) (call:=eN P E n) (fl:=fl) (k:=σ.length) (free:=kI ops.toList ms i) (fr:=fr) (σ:=σ++hs) hshape hal;rw[hpd]
      by_cases hm:eM o.op=true
      .obtain⟨_,e3⟩:=aB4 (P:=P) hU (eJ:=fl) (σ2:=σ++hs) hown hm hp;simp only at e3;subst e3;have e4:=λf=>ND (n:=n) (aB4 (P:=P) hU (eJ:=f) (σ2:=σ1++hs) hown hm hp).1
       simp only at e4;cases(!eM o.op||kI ops.toList ms i)with
       |true=>exact⟨e4 fl,rfl⟩
       |false=>
        simp only;rw[e4];simp
      .simp only[yCw]at hm;have hm2:=hm;rw[hm];simp only[yCm,yDl];rw[aAN (call':=kJ E) hm];unfold cT pop at hp ⊢;have hcal:gP fr o.op=none:=by
        cases hop:o.op with
        |call c=>
         obtain⟨callee,args,ts⟩:=c;rw[hop]at hm2;cases callee with
         |value f=>simp[eM]at hm2
         |invoke r m=>rfl
         |builtin b=>rfl
        |_=>rfl
       rw[hcal]at hp ⊢;simp only at hp ⊢;cases hv:eK P fr o.op with
       |some q=>
        rw[hv]at hp;exact iq
       |none=>
        rw[hv]at hp;simp only at hp ⊢;have aJx:fB o.op=true\/qB o.op=true\/iP o.op=true\/iF o.op=true:=by
         simp only[hal,eG,hm2,yDI,yBR]at hshape;rcases hshape with((h|h)|h)|h
         .exact .inr (.inr (.inr h))
         .exact .inl h
         .exact .inr (.inl h)
         .exact .inr (.inr (.inl h))
        rcases aJx with hl|hl|hl|hl
        .cases hop:o.op with
         |load t y=>
          rw[hop]at hp;simp only[dE]at hp ⊢;cases he:aZ fr y with
          |none=>rw[he]at hp;cases hp
          |some a=>
           rw[he]at hp;simp only at hp ⊢;cases hlo:p6 P σ t a with
           |none=>rw[hlo]at hp;cases hp
           |some q=>
            rw[hlo]at hp;rw[aJv hs hlo];exact iq
         |convert s d y=>
          rw[hop]at hp;simp only[dE]at hp ⊢;split at hp
          .rename_i htc;rw[yAJ htc];split at hp
           .rename_i ad had;split at hp
            .exact su
            .split at hp
             .rename_i q hq;obtain⟨xs,hxs⟩:=SJ hq;rw[aBd (σ':=σ++hs) hq (λid hid=>yAg (aBc hxs hid))];exact su
             .cases hp
           .cases hp
          .cases hp
         |_=>rw[hop]at hl;simp[fB]at hl
        .cases hop:o.op with
         |buildSlice t len parts=>
          rw[hop]at hp;simp only[dE]at hp ⊢;cases hps:p7 fr parts.toList with
          |none=>rw[hps]at hp;cases hp
          |some ps=>
           rw[hps]at hp;simp only at hp ⊢;cases hq:uL P t len (List.map (λq=>(q.fst,q.snd.strip)) ps)with
           |none=>rw[hq]at hp;cases hp
           |some q=>
            rw[hq]at hp;exact iq
         |makeSlice t x y=>
          rw[hop]at hp hl;obtain⟨q,hq⟩:=SR (P:=P) hl;simp only[hq]at hp ⊢;cases q with
          |none=>cases hp
          |some q=>
           simp only[yAC,yAb,yAc]at hp ⊢;obtain⟨rfl,rfl⟩:=hp;exact⟨⟨rfl,rfl⟩,rfl⟩
         |_=>rw[hop]at hl;simp[qB]at hl
        .cases hop:o.op with
         |store t y z=>
          rw[hop]at hp;simp only[dE]at hp ⊢;cases he:aZ fr y with
          |none=>rw[he]at hp;cases hp
          |some a=>
           cases hez:aZ fr z with
           |none=>rw[he,hez]at hp;cases hp
           |some b=>
            rw[he,hez]at hp;simp only at hp ⊢;cases hst:s9 P fl σ t a b with
            |none=>rw[hst]at hp;cases hp
            |some q=>
             rw[hst]at hp;rw[aJw hs hst];simp only[yAb,yAc]at hp ⊢;obtain⟨rfl,rfl⟩:=hp;refine⟨⟨rfl,rfl⟩,?_⟩;unfold s9 at hst;split at hst
             .split at hst
              .exact gz
              .cases hst
             .exact gz
             .cases hst
         |_=>rw[hop]at hl;simp[iP]at hl
        .rw[aAY hl]at hp;cases hp
     refine⟨hs,⟨fr,σ++hs,p,lK fr o.op⟩::tr,hho hs e1,?_⟩;simp only[eW,hw,yAL,hal,yAx,yAN];rw[key.1];simp only;rw[key.2]at e2;rw[e2]
   .simp only[yCw]at hw;rw[hw]at h;simp only[yAx,yAN]at h;obtain⟨hs,tr,e1,e2⟩:=GY hU (n:=n) ms hsh hno hsu l (i+1) _ _ x hd' h;refine⟨hs,⟨fr,σ++hs,.aI [],none⟩::tr,hho hs e1,?_⟩;simp only[eW,hw,yAx,yAN,hal];rw[e2]
theorem aJy(hU:aH E){n:Nat}{ops:Gg}{x:Gc×Gb}(hs:(TP ops&&vR ops&&EA ops)=true)(h:eF P (kJ E) fl ops ops.toList fr σ=some x):oV P (eN P E n) fl ops fr σ=some x:=by
 simp only[yAr,TP]at hs;obtain⟨⟨h1,h2⟩,h3⟩:=hs;rw[rY]at h1;simp only[yAr]at h1;obtain⟨hreg,hfeet⟩:=h1;have hr:=DU hreg;obtain⟨hs,tr,e1,e2⟩:=GY (n:=n) hU (cN ops.toList []) (λi o ho=>hr.shape i o ho) h2 h3 ops.toList 0 fr σ x Ai h;unfold oV;simp only[hreg,yAL,e1,e2];have hfo:pE ops.toList (cN ops.toList []) tr=true:=by
  simp only[pE,yAn,yAX];simp only[yAn,yAX]at hfeet;intro k hk;have h1:=hfeet k Fh;cases hs:fA iP ops.toList k with
  |false=>simp
  |true=>
   rw[hs]at h1;simp only[yBJ,yCc,yAn,yAX]at h1 ⊢;intro i hi;have h2:=h1 i Dv;rw[h2];simp
 rw[yAJ hfo]
theorem WL.aAE{rd:Option Nat}{ms:List Nat}{Q:PO->Prop}{ops:Gg}{id:Nat}{y:Code}(hU:aH E)(_hd:DJ ops=true)(hs:(TP ops&&vR ops&&EA ops)=true)(h:SQ P (kJ E) fl ops ops.toList fr σ (λfr' σ'=>Wp P E rd y fl fr' ms σ' Q)) :
  Wp P E rd (.seq (.region id ops true) y) fl fr ms σ Q:=by
 obtain⟨fr',σ',h1,h2⟩:=h.ex;exact .seq ⟨_,.draw (N:=0) (λn _=>aJy hU hs h1),.normal h2⟩
end
end
section
open Go
abbrev eP:=Nat->Option Nat
def TQ:Op->Option Tmp
 |.fieldAddr _ (.tmp u) _=>some u
 |.nilCheck (.tmp u)=>some u
 |.move (.tmp u)=>some u
 |_=>none
def eP.next(ρ:eP)(o:Oper):eP:=match o.dst with
 |none=>ρ
 |some d=>λt=>if d=t then(match TQ o.op with
  |some u=>ρ u
  |none=>none)else ρ t
def eP.iZ(ρ:eP):Op->Option Nat
 |.load _ (.tmp t)=>ρ t
 |.store _ (.tmp t) _=>ρ t
 |_=>none
def BZ:eP->List Oper->List (Option Nat)
 |_,[]=>[]
 |ρ,o::l=>ρ.iZ o.op::BZ (ρ.next o) l
def eP.ok(ρ:eP)(fr:List PD):Prop:=∀t id id',ρ t=some id->fU (fr.getD t (.aI []))=some id'->id'=id
def eP.of:List (Nat×Nat)->eP
 | []=>λ_=>none
 |x::l=>λt=>if x.1=t then some x.2 else eP.of l t
def eP.at(fr:List PD):List (Nat×Nat)->Prop
 | []=>True
 |x::l=>(∃off,lk fr x.1=some (.ptr x.2 off))/\eP.at fr l
theorem eP.aB5{fr:Gc}:∀(l:List (Nat×Nat)),eP.at fr l->(eP.of l).ok fr
 | [],_=>λ_ _ _ h=>Ap
 |x::l,⟨⟨off,h1⟩,h2⟩=>λt id id' h h'=>by
  unfold eP.of at h
  by_cases e:x.1=t
  .rw[yAJ e]at h;simp only[yAb]at h;rw[M0,e]at h1;rw[yAA,h1]at h';simp only[yDk,fU,yAb]at h';rw[<-h',h]
  .rw[yAI e]at h;exact eP.aB5 l h2 t id id' h h'
section
variable{P:Program}{call:dA}{fl:Nat}{ops:Gg}
theorem eP.aJz{ρ:eP}{fr:Gc}(h:ρ.ok fr){op:Op}{a b:Nat}(h1:lK fr op=some a)(h2:ρ.iZ op=some b):a=b:=by
 unfold eP.iZ at h2;split at h2
 .rename_i t;simp only[lK,aZ]at h1;exact h _ _ _ h2 h1
 .rename_i t;simp only[lK,aZ]at h1;exact h _ _ _ h2 h1
 .cases h2
theorem eP.aB6{ρ:eP}{fr:Gc}(h:ρ.ok fr){o:Oper}{p:PD}
  (hp:∀u,TQ o.op=some u->∀id,fU p=some id->fU (fr.getD u (.aI []))=some id):(ρ.next o).ok (bE fr o.dst p):=by
 intro t id id' h1 h2;unfold eP.next at h1;cases hd:o.dst with
 |none=>
  rw[hd]at h1 h2;exact h t id id' h1 h2
 |some d=>
  rw[hd]at h1 h2;simp only[bE]at h1 h2
  by_cases e:d=t
  .rw[yAJ e]at h1;have hpt:fU p=some id':=by
    subst e;rw[yAA]at h2
    by_cases hlt:d<fr.length
    .rw[yAj hlt]at h2;simpa using h2
    .rw[yBB (by rw[yAD];exact Nat.le_of_not_lt hlt)]at h2;cases h2
   split at h1
   .rename_i u ho;exact h u id id' h1 (hp u ho _ hpt)
   .cases h1
  .rw[yAI e]at h1;rw[yAA,yAd e]at h2;exact h t id id' h1 (by rw[yAA];exact h2)
theorem aJA{s:TypeId}{x p:PD}{f id:Nat}(h:BF P s x f=some p)(hp:fU p=some id):fU x=some id:=by
 unfold BF at h
 repeat' split at h
 all_goals first
  |(simp only[yAb]at h;subst h;exact hp)
  |(cases h;done)
def xV(ops:Array Oper):Bool:=s6 ops.toList [] λms=>vW ops ms
end
section
variable{P:Program}{E:aE}{fl:Nat}{fr:Gc}{σ:Gb}
end
end
section
open Go
section
variable{P:Program}{call:dA}{fl:Nat}{ops:Gg}{l:List Oper}{fr aS:Gc}{σ σ1:Gb}{K:List PD->List aB->Prop}
variable{dst:Option Tmp}{x y:Operand}{t u ty:TypeId}{pos:String}{edges:Array Edge}{guard:Option (Nat×Bool)}{p r:PD}{bs:Gd}
end
end
mutual
def PD.flat:PD->Bool
 |.bool _|.int _ _|.str _|.gR|.iX|.fT _=>true
 |.agg cs=>PD.EB cs
 |.aI cs=>PD.EB cs
 |_=>false
def PD.EB:List PD->Bool
 | []=>true
 |x::xs=>x.flat&&PD.EB xs
end
theorem PD.aB7:∀xs:List PD,PD.EB xs=xs.all PD.flat
 | []=>by simp[PD.EB]
 |x::xs=>by simp[PD.EB,PD.aB7 xs]
theorem VR.flat{c c':Cx}{v:Value}{p:PD}(hv:VR c v p):p.flat=true->VR c' v p:=by
 have at_:∀ {ds:Gc} {i:Nat} {d:PD},PD.EB ds=true->ds[i]?=some d->d.flat=true:=by
  intro ds i d h hd;rw[PD.aB7]at h;exact yAn.1 h d (yAE hd)
 induction hv with
 |bool b=>intro _;exact .bool b
 |int k n=>intro _;exact .int k n
 |str s=>intro _;exact .str s
 |agg cs ds hl h1 _ ih=>
  intro hp;simp only[PD.flat]at hp;exact vm
 |slice A n cap size xs tok eJ hn hc hm hx hf h1 hcl _ ht ih=>intro hp;simp[PD.flat]at hp
 |ptr id off b hd hs hr=>intro hp;simp[PD.flat]at hp
 |dJ id off n cap size b hd hs hr h1 h2=>intro hp;simp[PD.flat]at hp
 |aR id ver off n cap size b q8 h1 h2=>intro hp;simp[PD.flat]at hp
 |dH id ver off b q8=>intro hp;simp[PD.flat]at hp
 |fK id b hd hn hr=>intro hp;simp[PD.flat]at hp
 |iface t v p _ ih=>intro hp;simp[PD.flat]at hp
 |eO ad eJ ds off hl h1 hcl _ ih=>intro hp;simp[PD.flat]at hp
 |gR=>intro _;exact .gR
 |func f cs ds hl _ ih=>intro hp;simp[PD.flat]at hp
 |jT f cs ds hl _ ih=>intro hp;simp[PD.flat]at hp
 |iX=>intro _;exact .iX
 |fT v h=>intro _;exact .fT v h
 |yield id l hd hn hr=>intro hp;simp[PD.flat]at hp
 |aI cs ds hl _ ih=>
  intro hp;simp only[PD.flat]at hp;exact vr
def Cx.boxed(c:Cx)(a:Addr):Prop:=∃id p b,c.D id/\c.σ[id]?=some (.box p)/\c.ρ id=.pointer (some ⟨b,0,none⟩)/\a.block=b
def Cx.open(c:Cx):Cx:={ w:=c.w,ρ:=λ_=>undef,σ:=[],D:=λ_=>False,X:=λa=>c.av a\/c.boxed a }
structure Hd (R:Prop):Prop where
 out:R
theorem aC{X R G:Prop}(gx:X)(r:R)(h:X->Hd R->G:=by
  (intro gx hh
   (repeat(first
    |(refine Fr.i ?_;simp only[bE,yBu,yBx];try rfl)
    |(refine By.i ?_;(focus(simp(disch:=first|omega|(simp;done)|(simp;omega)) [wrap_i64,wrap_u64,gx,entry,vP,bZ,dZ,vQ];first|done|rfl|exact⟨rfl,rfl⟩)))
    |(refine By.i ?_;simp(disch:=first|omega|(simp;done)|(simp;omega)) [wrap_i64,wrap_u64,gx,entry,vP,bZ,dZ,vQ];refine⟨Bd,rfl⟩)
    |(refine Wt.i ?_;first|rfl|(focus(simp[gx,entry,vP,bZ,dZ,vQ];done)))
    |(refine Ns.i ?_;(try simp only[yAl,yAO,yAR,yAi,yAa,yAT,yAQ,yAp,Nat.reduceAdd]);rfl)|rfl
    |(apply SL.pass;(focus(refine Wt.i ?_;rfl)))|(apply SL.aHi;(focus decide +kernel))|(apply tv;(focus rfl))|apply SL.move|apply SL.assign|apply SL.load|apply SL.BB|apply tv|apply SL.make
    |apply SL.binOp|apply SL.append|(apply SL.aTH;(focus decide +kernel))|apply tv|apply SL.builtin|apply SL.fieldAddr|apply SL.indexAddr|apply SL.field|apply SL.extract|(apply tv;rotate_left;(focus rfl);rotate_right)|apply SL.BC|apply SL.pick|apply SL.store|apply SL.unOp|apply SL.convert|apply SL.index
    |apply SL.slice|apply SL.build|apply tv|apply SL.buildSlice|apply SL.box|apply SL.alloc|apply SL.makeFunc|apply tv|apply SQ.nil|(apply WL.zF;(focus decide +kernel))
    |(apply WL.I1 Bl;(focus decide +kernel);(focus decide +kernel))|(apply tv;(focus decide +kernel);(focus decide +kernel))|(apply WL.aAz;(focus decide +kernel))
    |(apply WL.aAA Bl;(focus decide +kernel);(focus decide +kernel))|(apply WL.aAB;(focus decide +kernel);(focus decide +kernel))|(apply tv Bl;(focus decide +kernel);(focus decide +kernel))
    |(apply WL.aAD Bl;(focus decide +kernel);(focus decide +kernel))|(apply WL.aAE Bl;(focus decide +kernel);(focus decide +kernel))
    |(apply tv Bl;(focus decide +kernel);(focus decide +kernel))|apply tv|(apply WL.ct;(focus rfl))|(apply WL.cf;(focus rfl))|refine kG.normal ?_|refine kG.ret ?_|refine kG.exit ?_
    |refine pZ.normal ?_|refine pZ.ret ?_|refine pZ.here ?_|refine tv Al ?_|refine Wp.block ?_|refine Wp.skip ?_|refine Wp.ret ?_|refine Wp.exit ?_|refine bV.ret ?_|refine bV.exit ?_
    |refine uI.normal ?_|refine tv ?_|refine uI.exit ?_|refine Wp.seq (Wp.seq ?_)|refine Wp.seq (Wp.block ?_)|(refine Wp.seq ?_;apply WL.ct;(focus rfl))|(refine Wp.seq ?_;apply WL.cf;(focus rfl))))
   exact hh.out)):G:=h gx ⟨r⟩
theorem kH{X R G:Prop}(gx:X)(r:R)(h:X->Hd R->G:=by
  (intro gx hh
   (repeat(first
    |(refine Fr.i ?_;simp only[bE,yBu,yBx];try rfl)
    |(refine By.i ?_;(focus(simp(disch:=first|omega|(simp;done)|(simp;omega)) [wrap_i64,wrap_u64,gx];first|done|rfl|exact⟨rfl,rfl⟩)))
    |(refine By.i ?_;simp(disch:=first|omega|(simp;done)|(simp;omega)) [wrap_i64,wrap_u64,gx];refine⟨Bd,rfl⟩)
    |(refine Wt.i ?_;first|rfl|(focus(simp[gx];done)))
    |(refine Ns.i ?_;(try simp only[yAl,yAO,yAR,yAi,yAa,yAT,yAQ,yAp,Nat.reduceAdd]);rfl)|rfl
    |(apply SL.pass;(focus(refine Wt.i ?_;rfl)))|(apply tv;(focus rfl))|apply SL.move|apply SL.assign|apply SL.load|apply SL.BB|apply tv|apply SL.make|apply SL.binOp|apply SL.append
    |apply tv|apply SL.builtin|apply SL.fieldAddr|apply SL.indexAddr|apply SL.field|apply SL.extract|apply SL.BC|apply SL.pick|apply SL.store|apply SL.unOp|apply SL.convert|apply SL.index|apply SL.slice
    |apply SL.build|apply tv|apply SL.buildSlice|apply SL.box|apply SL.alloc|apply SL.makeFunc))
   exact hh.out)):G:=h gx ⟨r⟩
theorem oU{X R G:Prop}(gx:X)(r:R)(h:X->Hd R->G:=by
  (intro gx hh
   (repeat(first
    |(refine Fr.i ?_;simp only[bE,yBu,yBx];try rfl)
    |(refine By.i ?_;(focus(simp(disch:=first|omega|(simp;done)|(simp;omega)) [wrap_i64,wrap_u64,gx];first|done|rfl|exact⟨rfl,rfl⟩)))
    |(refine By.i ?_;simp(disch:=first|omega|(simp;done)|(simp;omega)) [wrap_i64,wrap_u64,gx];refine⟨Bd,rfl⟩)
    |(refine Wt.i ?_;first|rfl|(focus(simp[gx];done)))
    |(refine Ns.i ?_;(try simp only[yAl,yAO,yAR,yAi,yAa,yAT,yAQ,yAp,Nat.reduceAdd]);rfl)|rfl
    |(apply SL.pass;(focus(refine Wt.i ?_;rfl)))|(apply tv;(focus rfl))|apply SL.move|apply SL.assign|apply SL.load|apply SL.BB|apply tv|apply SL.make|apply SL.binOp|apply SL.append|apply tv
    |apply SL.builtin|apply SL.fieldAddr|apply SL.indexAddr|apply SL.field|apply SL.extract|apply SL.BC|apply SL.pick|apply SL.store|apply SL.unOp|apply SL.convert|apply SL.index|apply SL.slice|apply SL.build
    |apply tv|apply SL.buildSlice|apply SL.box|apply SL.alloc|apply SL.makeFunc))
   exact hh.out)):G:=h gx ⟨r⟩
theorem F1{X R G:Prop}(gx:X)(r:R)(h:X->Hd R->G:=by
  (intro gx hh
   (repeat(first
    |(refine Fr.i ?_;simp only[bE,yBu,yBx];try rfl)
    |(refine By.i ?_;(focus(simp(disch:=first|omega|(simp;done)|(simp;omega)) [wrap_i64,wrap_u64,gx];first|done|rfl|exact⟨rfl,rfl⟩)))
    |(refine By.i ?_;simp(disch:=first|omega|(simp;done)|(simp;omega)) [wrap_i64,wrap_u64,gx];refine⟨Bd,rfl⟩)
    |(refine Wt.i ?_;first|rfl|(focus(simp;done)))
    |(refine Ns.i ?_;(try simp only[yAl,yAO,yAR,yAi,yAa,yAT,yAQ,yAp,Nat.reduceAdd]);rfl)|rfl
    |(apply SL.pass;(focus(refine Wt.i ?_;rfl)))|(apply tv;(focus rfl))|apply SL.move|apply SL.assign|apply SL.load|apply SL.BB|apply tv|apply SL.make|apply SL.binOp|apply SL.append
    |apply tv|apply SL.builtin|apply SL.fieldAddr|apply SL.indexAddr|apply SL.field|apply SL.extract|apply SL.BC|apply SL.pick|apply SL.store|apply SL.unOp|apply SL.convert|apply SL.index|apply SL.slice
    |apply SL.build|apply tv|apply SL.buildSlice|apply SL.box|apply SL.alloc|apply SL.makeFunc))
   exact hh.out)):G:=h gx ⟨r⟩
theorem aAG{X R G:Prop}(gx:X)(r:R)(h:X->Hd R->G:=by
  (intro gx hh
   (repeat(first
    |(refine Fr.i ?_;simp only[bE,yBu,yBx];try rfl)
    |(refine By.i ?_;(focus(simp(disch:=first|omega|(simp;done)|(simp;omega)) [wrap_i64,wrap_u64,gx];first|done|rfl|exact⟨rfl,rfl⟩)))
    |(refine By.i ?_;simp(disch:=first|omega|(simp;done)|(simp;omega)) [wrap_i64,wrap_u64,gx];refine⟨Bd,rfl⟩)
    |(refine Wt.i ?_;first|rfl|(focus(simp[gx];done)))
    |(refine Ns.i ?_;(try simp only[yAl,yAO,yAR,yAi,yAa,yAT,yAQ,yAp,Nat.reduceAdd]);rfl)|rfl
    |(apply SL.pass;(focus(refine Wt.i ?_;rfl)))|(apply tv;(focus rfl))|apply SL.move|apply SL.assign|apply SL.load|apply SL.BB|apply tv|apply SL.make|apply SL.binOp|apply SL.append|apply tv
    |apply SL.builtin|apply SL.fieldAddr|apply SL.indexAddr|apply SL.field|apply SL.extract|apply SL.BC|apply SL.pick|apply SL.store|apply SL.unOp|apply SL.convert|apply SL.index|apply SL.slice|apply SL.build
    |(apply SL.aHj;rotate_left;(focus rfl);rotate_right)|apply tv|apply SL.buildSlice|apply SL.box|apply SL.alloc|apply SL.makeFunc))
   exact hh.out)):G:=h gx ⟨r⟩
theorem HV{c:Cx}{vs:Ge}{n:Nat}(h:aV c vs [.slice n [] .any]):aV c vs [.slice n [] .jF]\/aV c vs [.slice n [] .jR]:=by
 obtain⟨h1,h2⟩:=h
 match vs,h1 with
 | [v],_=>
   have hv:=h2 0 v _ rfl rfl;obtain⟨A,cap,fl,rfl,a1,a2,a3,a4,a5,a6,a7,a8⟩:=hv.oF;have one:∀d,VR c (.slice A ([]:List PD).length cap) d->aV c [.slice A ([]:List PD).length cap] [d]:=λd hd=>⟨rfl,λi v d' e1 e2=>by
    cases i with
    |zero=>simp at e1 e2;subst e1 e2;exact hd
    |succ i=>simp at e1⟩
   cases A with
   |none=>exact .inl (one _ (.slice none _ cap n [] .jF fl rfl a1 a2 a3 a4 a5 a6 a7 ⟨_,_,rfl⟩))
   |some a=>exact .inr (one _ (.slice (some a) _ cap n [] .jR fl rfl a1 a2 a3 a4 a5 a6 a7 ⟨_,_,_,rfl⟩))
section
open Go
section
variable{P:Program}{call:dA}{fl:Nat}{ops:Gg}
theorem YZ:∀(l:List Oper) (i k:Nat) (fr:List PD) (σ:List aB) (tr:List TE) (fr':List PD) (σ':List aB) (ρ:eP),
  rB P call fl ops i k l fr σ=some (tr,fr',σ')->ρ.ok fr->∀j a b,(tr[j]?).bind TE.iZ=some a->(BZ ρ l).getD j none=some b->a=b
 | [],_,_,_,_,_,_,_,_,_,_,_,_,_,_,h2=>by simp[BZ]at h2
 |o::l,i,k,fr,σ,tr,fr',σ',ρ,h,hρ,j,a,b,h1,h2=>by
  simp only[rB]at h;split at h
  .split at h
   .rename_i p σ1 hop;split at h
    .rename_i pK aS σ2 hrec;simp only[yAb,yAc]at h;obtain⟨rfl,rfl,rfl⟩:=h;cases j with
     |zero=>
      simp only[yBv,yCI]at h1;simp only[BZ,List.getD_cons_zero]at h2;exact eP.aJz hρ h1 h2
     |succ j=>
      simp only[yBL]at h1;simp only[BZ,yDC]at h2;refine YZ l _ _ _ _ _ _ _ _ hrec (eP.aB6 hρ ?_) j a b h1 h2;intro u ho id hp;unfold TQ at ho;split at ho
      .rename_i s u' f LO;simp only[yAb]at ho;subst ho;rw[LO]at hop;simp only[l6,iF,yAL,eK,aZ]at hop;split at hop
       .rename_i p' hp';simp only[yAb,yAc]at hop;obtain⟨rfl,rfl⟩:=hop;exact aJA hp' hp
       .cases hop
      .rename_i u' LO;simp only[yAb]at ho;subst ho;rw[LO]at hop;simp only[l6,iF,yAL,eK,aZ]at hop;split at hop
       .rename_i p' hp';simp only[yAb,yAc]at hop;obtain⟨rfl,rfl⟩:=hop;split at hp'
        .rename_i id' off' e;exact jx
        .rename_i cs off e;exact jx
        .rename_i id' fO off' e;exact jx
        .cases hp'
       .cases hop
      .rename_i u' LO;simp only[yAb]at ho;subst ho;rw[LO]at hop;simp only[l6,iF,yAL,eK,aZ,yAb,yAc]at hop;rw[hop.1];exact hp
      .cases ho
    .cases h
   .cases h
  .split at h
   .rename_i pK aS σ2 hrec;simp only[yAb,yAc]at h;obtain⟨rfl,rfl,rfl⟩:=h;cases j with
    |zero=>simp at h1
    |succ j=>
     simp only[yBL]at h1;simp only[BZ,yDC]at h2;exact YZ l _ _ _ _ _ _ _ _ hrec (eP.aB6 hρ λ_ _ _ hp=>by cases hp) j a b h1 h2
   .cases h
end
open Classical in
def wO(E:aE)(B:List Nat):dA:=λfl tg args σ=>match fI E fl tg args σ with
 |some (p,σ')=>if σ.length<=σ'.length/\(∀id∈B,id<σ.length->σ'[id]?=σ[id]?)then some (p,σ')else none
 |none=>none
theorem o6{E:aE}{B:List Nat}{fl f:Nat}{g:Fw}{args:Gc}{σ σ':Gb}{p:PD}(hE:E f=some g)(h:g fl args σ=some (p,σ'))(hl:σ.length<=σ'.length)(hk:∀id∈B,id<σ.length->σ'[id]?=σ[id]?) :
  wO E B fl (.inl f) args σ=some (p,σ'):=by
 have e:fI E fl (.inl f) args σ=some (p,σ'):=by simp only[fI,hE,h]
 unfold wO;rw[e];simp only;rw[yAJ ⟨hl,hk⟩]
theorem aQp{E:aE}{B:List Nat}{fl:Nat}{tg:FuncId ⊕ Nat}{args:Gc}{σ σ':Gb}{p:PD}(h:wO E B fl tg args σ=some (p,σ')):fI E fl tg args σ=some (p,σ')/\σ.length<=σ'.length/\∀id∈B,id<σ.length->σ'[id]?=σ[id]?:=by
 unfold wO at h;split at h
 .rename_i p1 σ1 e;split at h
  .rename_i hc;simp only[yAb,yAc]at h;obtain⟨rfl,rfl⟩:=h;exact⟨e,hc⟩
  .cases h
 .cases h
def FI(ops:List Oper):Bool:=ops.all λo=>!dF o.op&&(!eM o.op||(match o.op with
 |.call { callee:=.value _,.. }=>true
 |_=>false))
section
variable{P:Program}{E:aE}{fl:Nat}{ops:Gg}
theorem TE.aFl{t:TE}{tr:List TE}{uT:Gb}:TE.at (t::tr) uT 0=t.σ:=rfl
theorem TE.IB{t:TE}{tr:List TE}{uT:Gb}{j:Nat}:TE.at (t::tr) uT (j+1)=TE.at tr uT j:=by simp[TE.at]
theorem TE.aFm{tr:List TE}{σ:Gb}{fr fr':Gc}{σ':Gb}{call:dA}{i k:Nat}{l:List Oper}(h:rB P call fl ops i k l fr σ=some (tr,fr',σ')):TE.at tr σ' 0=σ:=by
 cases l with
 |nil=>
  simp only[rB,yAb,yAc]at h;obtain⟨rfl,_,rfl⟩:=h;rfl
 |cons o l=>
  simp only[rB]at h;split at h
  .split at h
   .exact rj
   .cases h
  .exact rj
theorem YY{B:List Nat}{n:Nat}:∀(l:List Oper) (i k:Nat) (fr:List PD) (σ:List aB) (x:Gc×List aB),(∀o∈l,(iF o.op||fB o.op||dF o.op||qB o.op||eG o.op)=true)->FI l=true ->
  eF P (wO E B) fl ops l fr σ=some x->∃tr,rB P (eN P E n) fl ops i k l fr σ=some (tr,x.1,x.2) /\
   ∀(j:Nat) (o:Oper),l[j]?=some o->eM o.op=true->(TE.at tr x.2 j).length<=(TE.at tr x.2 (j+1)).length/\∀id∈B,id<(TE.at tr x.2 j).length->(TE.at tr x.2 (j+1))[id]?=(TE.at tr x.2 j)[id]?
 | [],_,_,_,_,x,_,_,h=>by
   simp only[eF,yAb]at h;subst h;exact⟨[],rfl,λj o h=>Br⟩
 |o::l,i,k,fr,σ,x,hsh,hk,h=>by
  simp only[FI,yCv,yAr,yBI]at hk;obtain⟨⟨hka,hkm⟩,hkl⟩:=hk;simp only[eF]at h;split at h
  .rename_i hw;split at h
   .rename_i p σ1 hp;obtain⟨tr,h1,h2⟩:=YY (n:=n) l (i+1) k _ _ x (λo ho=>hsh o (by simp[ho])) hkl h;have hst:cT P (eN P E n) fl fr σ o.op=some (p,σ1)/\(eM o.op=true->σ.length<=σ1.length/\∀id∈B,id<σ.length->σ1[id]?=σ[id]?):=by
     unfold cT at hp ⊢;split at hp
     .rename_i tg args hc;obtain⟨q1,q2,q3⟩:=aQp hp;exact⟨aAP q1,λ_=>⟨q2,q3⟩⟩
     .rename_i hc;refine⟨hp,λhm=>?_⟩;rw[hm]at hkm;simp only[yBJ,yCc]at hkm
      exfalso
      split at hkm
      .rename_i g args ts hop;unfold pop at hp;rw[hop]at hp;simp[eK,dE]at hp
      .cases hkm
    refine⟨⟨fr,σ,p,lK fr o.op⟩::tr,?_,?_⟩
    .simp only[rB,hw,yAL,hka,yAx,yAN];rw[R8 (hsh o Ai) hka];simp only[Bool.or_true,hst.1,h1]
    .intro j o' ho' hm;cases j with
     |zero=>
      simp only[yBv,yAb]at ho';subst ho';rw[TE.IB,TE.aFl,TE.aFm h1];exact hst.2 hm
     |succ j=>
      rw[TE.IB,TE.IB];exact h2 j o' (by simpa using ho') hm
   .cases h
  .rename_i hw;obtain⟨tr,h1,h2⟩:=YY (n:=n) l (i+1) k _ _ x (λo ho=>hsh o (by simp[ho])) hkl h;refine⟨⟨fr,σ,.aI [],none⟩::tr,?_,?_⟩
   .simp only[rB,hw,yAx,yAN,hka,h1]
   .intro j o' ho' hm;cases j with
    |zero=>
     rw[TE.IB,TE.aFl,TE.aFm h1];exact⟨yAk _,λ_ _ _=>rfl⟩
    |succ j=>
     rw[TE.IB,TE.IB];exact h2 j o' (by simpa using ho') hm
theorem Y0:∀ {l:List Oper},FI l=true->nQ P l=some []
 | [],_=>rfl
 |o::l,h=>by
  simp only[FI,yCv,yAr,yBI]at h;obtain⟨⟨ha,_⟩,hl⟩:=h;unfold nQ;split
  .rename_i t ho;rw[ho]at ha;cases ha
  .exact Y0 hl
def QE(ops:List Oper)(ρ:eP):List (Option Nat):=s6 ops [] λms=>
 (List.range ops.length).flatMap λk=>if fA eM ops k then(List.range ops.length).filterMap λi=>if fA fB ops i&&loose ms i k then some ((BZ ρ ops).getD i none)else none else []
def rK(B:List Nat):List (Option Nat)->Prop
 | []=>True
 |some a::l=>a∈B/\rK B l
 |none::_=>False
theorem aFj{B:List Nat}:∀ {l:List (Option Nat)},rK B l->∀x,x∈l->∃a,x=some a/\a∈B
 | [],_,_,h=>Ap
 |some a::l,h,x,hm=>by
  rcases yBh.1 hm with rfl|hm
  .exact⟨a,rfl,h.1⟩
  .exact aFj h.2 x hm
 |none::_,h,_,_=>h.elim
def aFg(f:Oper->Bool)(ops:List Oper)(i:Nat):Bool:=((ops[i]?).map f).getD false
def YX(f:Nat)(o:Oper):Bool:=o.guard.isNone&&(match o.op with
 |.call { callee:=.value (.func g),.. }=>decide (g=f)
 |_=>false)
end
end
theorem aFc{F:Fence}{P:Program}(hF:Open F P)(m:Machine):m.fenced P F:=by
 intro g _;refine⟨λh=>?_,Or.inl (hF.fn _),λ_ _=>hF.fn _,λ_ h=>?_⟩
 .rw[hF.alive]at h;cases h
 .rw[hF.depth]at h;cases h
theorem aP6{F:Fence}{P:Program}(hF:Open F P){m m':Machine}{e:Ending}(h:Comes P m m' e):ComesIn (Machine.fenced P F) P m m' e:=by
 cases e with
 |returned v=>exact(StepsIn.of_steps h).mono λm _=>aFc hF m
 |panicked chain=>exact(StepsIn.of_steps h).mono λm _=>aFc hF m
 |outgrown=>exact h
theorem aP7{F:Fence}{P:Program}(hF:Open F P){n:Nat}{f:FuncId}{args:Gf}{w:World}{R:Ending->World->Prop}(h:Calls P f args w R):CallsIn F n P f args w R:=
 ⟨hF.fn f,λcs _=>let ⟨e,w',fr,r,s,x⟩:=h cs;⟨e,w',fr,r,aP6 hF s,x⟩⟩
theorem aF.LL{P:Program}{E:aE}(hE:aF P E){f:FuncId}{g:Fw}(hf:∃fn,P.funcs[f]?=some fn/\fn.body.isSome=true)
  (h:∀(fl:Nat) (args:List PD) (c:Cx) (vs:List Value) (p:PD) (σ':List aB),g fl args c.σ=some (p,σ')->Sr c->Xw fl c->aV c vs args->Calls P f vs.toArray c.w (D0 fl c p σ')):aF P (E.add f g):=by
 intro F fl f' g' args c vs p σ' hF hg hgo hs hX hv;unfold aE.add at hg;split at hg
 .rename_i e;subst e;simp only[yAb]at hg;subst hg;exact⟨hf,λm=>aP7 hF (h fl args c vs p σ' hgo hs hX hv)⟩
 .exact gv
theorem aF.H9{P:Program}{E:aE}(hE:aF P E){f:FuncId}{g:List PD->Option PD}(hf:∃fn,P.funcs[f]?=some fn/\fn.body.isSome=true)
  (h:∀(args:List PD) (c:Cx) (vs:List Value) (p:PD),g args=some p->Sr c->aV c vs args->Calls P f vs.toArray c.w λe w'=>∃v,e=.returned v/\c.w.grownBy w' none/\(Sr (c.at w')->VR (c.at w') v p)):aF P (E.add f (entry g)):=by
 refine hE.LL hf λfl args c vs p σ' hg hs _ hv=>?_
 unfold entry at hg;cases hga:g args with
 |none=>rw[hga]at hg;cases hg
 |some q=>
  rw[hga]at hg;simp only[yAb,yAc]at hg;obtain⟨rfl,rfl⟩:=hg;refine yBA (h args c vs q hga hs hv) λe w' he=>?_
  obtain⟨v,rfl,hgr,hvv⟩:=he;have hs':=hs.grow hgr;exact⟨c.at w',rfl,rfl,hs',Nx.grow hs hgr,hvv hs',λ_ h=>.inl h⟩
theorem grownBy_refl(w:World):w.grownBy w none:=⟨rfl,rfl,rfl,yAk _,λ_ _ _=>rfl⟩
theorem P9{c:Cx}{vs:Ge}{p:PD}(h:aV c vs [p]):∃v,vs=[v]/\VR c v p:=by
 match vs,h.1 with
 | [v],_=>exact⟨v,rfl,h.2 0 _ _ rfl rfl⟩
theorem LI{c:Cx}{vs:Ge}{p q:PD}(h:aV c vs [p,q]):∃v u,vs=[v,u]/\VR c v p/\VR c u q:=by
 match vs,h.1 with
 | [v,u],_=>exact⟨v,u,rfl,h.2 0 _ _ rfl rfl,h.2 1 _ _ rfl rfl⟩
theorem VR.int_eq{c:Cx}{v:Value}{k:IntKind}{n:Int}(h:VR c v (.int k n)):v=.int k n:=Co
theorem VR.LJ{c:Cx}{v:Value}{s:Gd}(h:VR c v (.str s)):v=.string ⟨s.toArray⟩:=Co
theorem aP8{α β:Type}{a:Em α}{r:Em β}{F:α->Option β}{args:Gc}{p:PD}(h:bZ a r F args=some p):∃x z,args.map PD.strip=[a.aA x]/\F x=some z/\p=r.aA z:=by
 match args,h with
 | [q],h=>
   simp only[bZ]at h;split at h
   .rename_i x hx;split at h
    .rename_i z hz;simp only[yAb]at h;exact⟨x,z,by simp[Em.mY hx],hz,h.symm⟩
    .cases h
   .cases h
theorem aP9{α β γ:Type}{a:Em α}{b:Em β}{r:Em γ}{F:α->β->Option γ}{args:Gc}{p:PD}(h:dZ a b r F args=some p):∃x y z,args.map PD.strip=[a.aA x,b.aA y]/\F x y=some z/\p=r.aA z:=by
 match args,h with
 | [q1,q2],h=>
   simp only[dZ]at h;split at h
   .rename_i x y hx hy;split at h
    .rename_i z hz;simp only[yAb]at h;exact⟨x,y,z,by simp[Em.mY hx,Em.mY hy],hz,h.symm⟩
    .cases h
   .cases h
section
section
variable{c:Cx}{w':World}{id n cap g size:Nat}{e:TypeId}{cur:Gf}{fz LM:Nat×Nat}
theorem aQa(hg:c.w.heap[g]?=some (.cells cur e fz))(h1:∀k,k≠g->w'.heap[k]?=c.w.heap[k]?)(h2:w'.heap[g]?=some (.cells cur e LM))(a:Addr):w'.cell? a=c.w.cell? a:=by
 unfold World.cell?
 by_cases h:a.block=g
 .rw[h,hg,h2]
 .rw[h1 _ h]
theorem Nx.QA{fl:Nat}(hd:c.D id)(hρ:c.ρ id=.slice (some ⟨g,0,none⟩) n cap)(hfl:fl<=id)(hg:c.w.heap[g]?=some (.cells cur e fz))
  (h0:w'.os=c.w.os/\w'.tape=c.w.tape/\w'.output=c.w.output/\w'.heap.size=c.w.heap.size) (h1:∀k,k≠g->w'.heap[k]?=c.w.heap[k]?) (h2:w'.heap[g]?=some (.cells cur e LM)):Nx fl c (c.at w') where
 X:=rfl
 os:=h0.1
 tape:=h0.2.1
 output:=h0.2.2.1
 size:=Nat.le_of_eq h0.2.2.2.symm
 len:=yAk _
 cell:=λa v ha hv=>⟨ha,by show w'.cell? a=_;rw[aQa hg h1 h2];exact hv⟩
 bG:=λ_ h=>h
 new:=λ_ h=>.inl h
 sG:=λ_ p _ h=>⟨rfl,p,h⟩
 nE:=λ_ _ h=>⟨rfl,h⟩
 tF:=λ_ _ _ n _ h=>⟨n,h,yAk _,λ_=>rfl⟩
 tH:=λ_ _ _ v cs _ h=>⟨v,cs,h,yAk _,λ_=>rfl⟩
 back:=λ_ _ h h' _=>⟨h,h'⟩
 frame:=λk _ hx=>h1 k λe=>hx id hd hfl (by rw[hρ,e];rfl)
 ro:=λ_ _ _=>rfl
 hole:=λ_ _ _=>rfl
theorem Sr.QA(hs:Sr c)(hd:c.D id)(hq:c.σ[id]?=some (.own e size n))(hρ:c.ρ id=.slice (some ⟨g,0,none⟩) n cap)(hg:c.w.heap[g]?=some (.cells cur e fz))
  (h0:w'.os=c.w.os/\w'.tape=c.w.tape/\w'.output=c.w.output/\w'.heap.size=c.w.heap.size) (h1:∀k,k≠g->w'.heap[k]?=c.w.heap[k]?) (h2:w'.heap[g]?=some (.cells cur e LM)) (h3:LM.2<=n*size):Sr (c.at w'):=by
 have hb:bA (c.ρ id)=some g:=by rw[hρ];rfl
 have nx:Nx 0 c (c.at w'):=Nx.QA hd hρ (yAF _) hg h0 h1 h2;have far:∀i b,c.D i->i≠id->bA (c.ρ i)=some b->w'.heap[b]?=c.w.heap[b]?:=λi b hi hne hbi=>h1 b λe'=>hs.inj i id b hi hd hne hbi (by rw[e'];exact hb)
 have hne:∀i (o:aB),c.σ[i]?=some o->(∀e s m,o≠.own e s m)->i≠id:=λi o ho hno e'=>by
  subst e';rw[hq]at ho;simp only[yAb]at ho;exact hno _ _ _ ho.symm
 refine⟨?_,?_,?_,?_,?_,?_,hs.inj,?_,hs.bG,?_,hs.jQ.mono nx⟩
 .intro i p hi hp;obtain⟨b',cs',T',e1,e2,e3,e4⟩:=hs.box i p hi hp;exact⟨b',cs',T',e1,by show w'.heap[b']?=_;rw[far i b' hi (hne i _ hp (λ_ _ _ e=>Bj)) DI];exact e2,e3.mono nx,e4⟩
 .intro i e0 s m hi ho
  by_cases hii:i=id
  .subst hii;have ho':c.σ[i]?=some (.own e0 s m):=ho;rw[hq]at ho';simp only[yAb,aB.own.injEq]at ho';obtain⟨rfl,rfl,rfl⟩:=ho';obtain⟨xs,hx⟩:=hs.own i _ _ _ hi hq;refine⟨xs,hx.1,?_⟩;rcases hx.2 with hv | ⟨g1,aFd,aI0,fz1,hv,hb1,oG,_,r⟩
   .rw[hρ]at hv;simp at hv
   .rw[hρ]at hv;simp only[yBN,yAb,yBG,yBl]at hv;obtain⟨rfl,_,rfl⟩:=hv;rw[hg]at oG;simp only[yAb,Obj.cells.injEq]at oG;obtain⟨rfl,_,rfl⟩:=oG;exact .inr ⟨g,cap,cur,LM,hρ,hb1,h2,h3,r⟩
  .obtain⟨xs,hx⟩:=hs.own i e0 s m hi ho;exact⟨xs,BS hx (λg' hg'=>far i g' hi hii hg')⟩
 .intro i e0 sz ver ds hi ho;obtain⟨b',C,cur,e1,e2,e3,e4,e5,e6,e7,e8⟩:=hs.row i e0 sz ver ds hi ho;exact⟨b',C,cur,e1,by show w'.heap[b']?=_;rw[far i b' hi (hne i _ ho (λ_ _ _ e=>Bj)) DI];exact e2,e3,e4,e5,e6,e7.mono nx,e8⟩
 .intro i es hi ho;obtain⟨b',ents,clock,e1,e2,e3,e4⟩:=hs.map i es hi ho;exact⟨b',ents,clock,e1,by show w'.heap[b']?=_;rw[far i b' hi (hne i _ ho (λ_ _ _ e=>Bj)) DI];exact e2,e3.mono nx,e4.mono nx⟩
 .intro i hi hm;obtain⟨b',e1,e2⟩:=hs.mark i hi hm;exact⟨b',e1,by show w'.heap[b']?=_;rw[far i b' hi (hne i _ hm (λ_ _ _ e=>Bj)) DI];exact e2⟩
 .intro i st fr ps asg bd hi hm;obtain⟨b',r,e1,e2,e3,e4,e5,e6,e7⟩:=hs.loop i st fr ps asg bd hi hm;exact⟨b',r,e1,by show w'.heap[b']?=_;rw[far i b' hi (hne i _ hm (λ_ _ _ e=>Bj)) DI];exact e2,e3,e4,e5,e6.mono nx,e7⟩
 .intro i b hi hbi;show b<w'.heap.size
  rw[h0.2.2.2];exact hs.lt i b hi hbi
 .intro a ha;have:w'.heap.size<=a.block:=ha;rw[h0.2.2.2]at this;exact hs.fresh a this
end
def LK:List PD->Option (List UInt8)
 | []=>some []
 |.int .u8 n::r=>if 0<=n/\n<256 then(match LK r with|some l=>some (UInt8.ofNat n.toNat::l)|none=>none)else none
 |_=>none
theorem aE8:∀ {xs:Gc} {l:Gd},LK xs=some l->xs=l.map λb=>PD.int .u8 b.toNat
 | [],l,h=>by simp only[LK,yAb]at h;subst h;rfl
 |x::r,l,h=>by
  unfold LK at h;split at h
  .cases ‹_::_=[]›
  .rename_i n r' heq;simp only[yCb]at heq;obtain⟨rfl,rfl⟩:=heq;split at h
   .rename_i hn;split at h
    .rename_i l' hl;simp only[yAb]at h;subst h;rw[yAS,<-aE8 hl]
     congr 2
     have:(UInt8.ofNat n.toNat).toNat=n.toNat:=by
      simp only[UInt8.toNat_ofNat'];omega
     omega
    .cases h
   .cases h
  .cases h
end
def tM(n:Nat)(k:Nat)(cs:List PD):List PD:=if n=1 then cs.take k else sJ n k cs
def bF(σ:List aB):Nat->PD->PD
 |0,p=>p
 |k+1,.agg cs=>.agg (cs.map (bF σ k))
 |k+1,.aI cs=>.aI (cs.map (bF σ k))
 |k+1,.slice n xs _=>.slice n (xs.map (bF σ k)) .any
 |k+1,.dJ id off n sz=>match σ[id]? with
  |some (.box q)=>if off+n*sz<=q.cells.length then .slice sz (tM sz n ((q.cells.drop off).map (bF σ k))) .any else .dJ id off n sz
  |_=>.dJ id off n sz
 |k+1,.aR id ver off n sz=>match σ[id]? with
  |some (.row _ sz' fO cs)=>if fO=ver/\sz'=sz/\off+n*sz<=cs.length then .slice sz (tM sz n ((cs.drop off).map (bF σ k))) .any else .aR id ver off n sz
  |_=>.aR id ver off n sz
 |k+1,.iface t p=>.iface t (bF σ k p)
 |_+1,p=>p
theorem aCm(σ:List aB):∀(k:Nat) (p:PD),p.plain=true->(bF σ k p).plain=true
 |0,p,h=>h
 |k+1,p,h=>by
  cases p<;>simp only[bF]<;>first
   |rfl
   |exact h
   |(simp[PD.plain]at h;done)
   |(split
     .split<;>rfl
     .rfl)
theorem aJQ(σ:List aB):∀(k:Nat) (p:PD) (j:Nat) (d:PD),(bF σ k p).cells[j]?=some d->∃k' d0,k'<=k/\p.cells[j]?=some d0/\d=bF σ k' d0
 |0,p,j,d,h=>⟨0,d,yAk _,h,rfl⟩
 |k+1,p,j,d,h=>by
  by_cases hty:∃t cs,p=.typed t cs
  .obtain⟨t,cs,rfl⟩:=hty;exact⟨0,d,yAF _,h,rfl⟩
  have hp:∀t cs,p≠.typed t cs:=λt cs e=>hty ⟨t,cs,e⟩
  by_cases ha:∃cs,p=.agg cs
  .obtain⟨cs,rfl⟩:=ha;simp only[bF,PD.cells,yAo]at h;cases hj:cs[j]? with
   |none=>rw[hj]at h;cases h
   |some d0=>
    rw[hj]at h;simp only[yAC,yAb]at h;exact⟨k,d0,Ah,by simpa [PD.cells]using hj,h.symm⟩
  .have hpl:p.plain=true\/∃vs,p=.aI vs:=by
    cases p<;>first|exact .inl rfl|exact .inr ⟨_,rfl⟩ | exact absurd ⟨_,rfl⟩ ha|exact absurd rfl (hp _ _)
   have h1:p.cells=[p]:=by
    rcases hpl with h | ⟨vs,rfl⟩
    .cases p<;>first|rfl|(simp[PD.plain]at h;done)
    .rfl
   have h2:(bF σ (k+1) p).cells=[bF σ (k+1) p]:=by
    rcases hpl with h | ⟨vs,rfl⟩
    .have:=aCm σ (k+1) p h
     generalize bF σ (k+1) p=q at *
     cases q<;>first|rfl|(simp[PD.plain]at this;done)
    .rfl
   rw[h2]at h;cases j with
   |zero=>
    simp only[yBv,yAb]at h;exact⟨k+1,p,yAk _,by rw[h1];rfl,h.symm⟩
   |succ j=>simp at h
theorem aCn(σ:List aB)(k:Nat)(p:PD):(bF σ k p).cells.length=p.cells.length:=by
 cases k with
 |zero=>rfl
 |succ k=>
  cases p<;>simp only[bF]<;>first
   |rfl
   |(simp[PD.cells];done)
   |(split
     .split<;>rfl
     .rfl)
theorem aCo(σ:List aB)(k:Nat):∀(xs:List PD) (j:Nat) (d:PD),((xs.map (bF σ k)).flatMap PD.cells)[j]?=some d->∃k' d0,k'<=k/\(xs.flatMap PD.cells)[j]?=some d0/\d=bF σ k' d0
 | [],j,d,h=>Br
 |x::xs,j,d,h=>by
  simp only[yAS,yBr]at h ⊢;have hl:=aCn σ k x;rw[yDb]at h ⊢;rw[hl]at h;split at h
  .rename_i hj;rw[yAJ hj];exact aJQ σ k x j d h
  .rename_i hj;rw[yAI hj];exact aCo σ k xs _ d h
theorem aJR{n k:Nat}{cs:Gc}(h:k*n<=cs.length):(tM n k cs).length=k:=by
 unfold tM;split
 .rename_i h1;subst h1;simp;omega
 .exact BT n k cs
theorem aCp:∀ {cs:Gc},(∀d∈cs,d.plain=true)->cs.flatMap PD.cells=cs
 | [],_=>rfl
 |x::xs,h=>by
  have hx:x.cells=[x]:=by
   have:=h x Ai;cases x<;>first|rfl|(simp[PD.plain]at this;done)
  rw[yBr,hx,aCp (λd hd=>h d (by simp[hd]))];rfl
theorem aJS{n k:Nat}{cs:Gc}(h:k*n<=cs.length)(hp:∀d∈cs,d.plain=true):(tM n k cs).flatMap PD.cells=cs.take (k*n):=by
 unfold tM;split
 .rename_i h1;subst h1;rw[aCp (λd hd=>hp d (yAy hd)),yDc]
 .exact NR n k cs h
theorem aJT{n k:Nat}{cs:Gc}(h:k*n<=cs.length)(hp:∀d∈cs,d.plain=true):∀x∈tM n k cs,x.cells.length=n:=by
 unfold tM;split
 .rename_i h1;subst h1;intro x hx;have:=hp x (yAy hx);cases x<;>first|rfl|(simp[PD.plain]at this;done)
 .exact NS n k cs h
theorem aJU{c:Cx}{cs:Ge}{ds:Gc}(h:aV c cs ds)(h1:∀v∈cs,v.oneCell'=true):∀d∈ds,d.plain=true:=by
 intro d hd;obtain⟨i,hi⟩:=yDQ hd;have hlt:i<cs.length:=by rw[h.1];exact(yA.1 hi).1
 have:=(h.2 i cs[i] d Fi hi).plain;rw[this];exact h1 _ (yAm hlt)
theorem EE{xs:Gc}(h:PD.fH xs=true){d:PD}(hd:d∈xs):d.bQ=true:=by
 rw[PD.r9]at h;exact yAn.1 h d hd
theorem aCq{x:PD}(h:x.bQ=true){d:PD}(hd:d∈x.cells):d.bQ=true:=by
 cases x with
 |agg cs=>simp only[PD.bQ]at h;exact EE h hd
 |typed t cs=>simp only[PD.bQ]at h;exact EE h hd
 |_=>simp only[PD.cells,yCM]at hd;rw[hd];exact h
theorem aCr{c1 c2:Cx}(hs:Sr c1)(hw:c2.w=c1.w)(hav:∀a,c1.av a->c2.av a)(hnew:∀id b,c1.D id->bA (c1.ρ id)=some b->∀j,c2.av ⟨b,j,none⟩) :
  ∀(k:Nat) (v:Value) (p:PD),VR c1 v p->(bF c1.σ k p).bQ=true->VR c2 v (bF c1.σ k p):=by
 have up:∀a v,c1.av a->c1.w.cell? a=some v->c2.av a/\c2.w.cell? a=some v:=λa v h1 h2=>⟨hav a h1,by rw[hw];exact h2⟩
 have row:∀(b off n cap sz C:Nat) (cells:List Value) (ds:List PD) (T:TypeId) (cur:Array Value) (k:Nat),(∀k'≤k,∀v p,VR c1 v p->(bF c1.σ k' p).bQ=true->VR c2 v (bF c1.σ k' p))->c1.w.heap[b]?=some (.cells cur T (0,0))->(∀j,c2.av ⟨b,j,none⟩) ->
   (∀(j:Nat) (v:Value),cells[j]?=some v->cur.toList[j]?=some v)->aV c1 cells ds->(∀v∈cells,v.oneCell'=true)->off+n*sz<=ds.length->n<=cap->cap<=maxLen ->
   (PD.slice sz (tM sz n ((ds.drop off).map (bF c1.σ k))) .any).bQ=true->VR c2 (.slice (some ⟨b,off,none⟩) n cap) (.slice sz (tM sz n ((ds.drop off).map (bF c1.σ k))) .any):=by
  intro b off n cap sz C cells ds T cur k ih hb hbv hc hv h1 hle hn hm hf;have hpd:=aJU hv h1;have hpl:∀d∈(ds.drop off).map (bF c1.σ k),d.plain=true:=λd hd=>by
   obtain⟨d0,SD,rfl⟩:=yAw.1 hd;exact aCm _ _ _ (hpd d0 (yBi SD))
  have hlen:n*sz<=((ds.drop off).map (bF c1.σ k)).length:=Aw;have hcl:cells.length=ds.length:=hv.1;have hfl:=aJS hlen hpl;refine .slice (some ⟨b,off,none⟩) n cap sz _ .any ((cells.drop off).take (n*sz)) (aJR hlen).symm hn hm (aJT hlen hpl) (by rw[yAt,yBg];omega) (λv rA=>h1 v (yBi (yAy rA))) ?_ ?_ trivial
  .intro j v hj;refine⟨_,rfl,?_,?_⟩
   .rw[tJ,hw];simp only[World.cell?,hb];rw[yAv]at hj;split at hj
    .rw[yBn]at hj;simpa using hc _ v hj
    .cases hj
   .rw[tJ];exact hbv _
  .intro j v d hj hd;rw[hfl,yAv]at hd;rw[yAv]at hj;split at hj
   .rename_i hjn;rw[yAJ hjn,yAo]at hd;rw[yBn]at hj;cases h0:(ds.drop off)[j]? with
    |none=>rw[h0]at hd;cases hd
    |some d0=>
     rw[h0]at hd;simp only[yAC,yAb]at hd;subst hd;rw[yBn]at h0;refine ih k (yAk _) v d0 (hv.2 _ v d0 hj h0) ?_;have hmem:bF c1.σ k d0∈(tM sz n ((ds.drop off).map (bF c1.σ k))).flatMap PD.cells:=by
      rw[hfl];refine yAE (i:=j) ?_;rw[yAv,yAJ hjn,yAo,yBn,h0];rfl
     obtain⟨x,hx,hxd⟩:=yDd.1 hmem;simp only[PD.bQ,yAr]at hf;exact aCq (EE hf.1 hx) hxd
   .cases hj
 intro k
 induction k using Nat.strongRecOn with
 |_ k ih=>
  intro v p hv hf;cases k with
  |zero=>exact hv.free up hf
  |succ k=>
   cases hv with
   |bool b=>exact .bool b
   |int kk n=>exact .int kk n
   |str s=>exact .str s
   |gR=>exact .gR
   |iX=>exact .iX
   |fT v h=>exact .fT v h
   |agg cs ds hl h1 h2=>
    simp only[bF]at hf ⊢;simp only[PD.bQ]at hf;refine .agg cs _ Cq h1 (λi u d hu hd=>?_);exact gr
   |aI cs ds hl h2=>
    simp only[bF]at hf ⊢;simp only[PD.bQ]at hf;refine .aI cs _ Cq (λi u d hu hd=>?_);exact gr
   |iface t u q hq=>
    simp only[bF]at hf ⊢;simp only[PD.bQ]at hf;exact .iface t u _ (ih k Ah u q hq hf)
   |slice A n cap size xs tok fl hn hc hm hx hfl h1 hcell h2 ht=>
    simp only[bF]at hf ⊢;simp only[PD.bQ,yAr]at hf;refine .slice A n cap size _ .any fl Dz hc hm ?_ hfl h1 (λj u hj=>?_) (λj u d hj hd=>?_) trivial
    .intro y hy;obtain⟨x,hxm,rfl⟩:=yAw.1 hy;rw[aCn];exact hx x hxm
    .obtain⟨ad,e,g1,g2⟩:=hcell j u hj;obtain⟨q1,q2⟩:=up _ _ g2 g1;exact⟨ad,e,q2,q1⟩
    .obtain⟨k',d0,hk,h0,rfl⟩:=aCo c1.σ k xs j d hd;refine ih k' Ah u _ (h2 j u d0 hj h0) ?_;obtain⟨y,hy,hyd⟩:=yDd.1 (yAE hd);exact aCq (EE hf.1 hy) hyd
   |ptr id off b hd hq hr=>simp[bF,PD.bQ]at hf
   |dH id ver off b hp=>simp[bF,PD.bQ]at hf
   |fK id b hd hn hr=>simp[bF,PD.bQ]at hf
   |yield id l hd hn hr=>simp[bF,PD.bQ]at hf
   |eO ad fl ds off hl h1 hcl h2=>
    simp only[bF]at hf ⊢;exact(VR.eO ad fl ds off hl h1 hcl h2).free up hf
   |func f cs ds hl h2=>
    simp only[bF]at hf ⊢;exact(VR.func f cs ds hl h2).free up hf
   |jT f cs ds hl h2=>
    simp only[bF]at hf ⊢;exact(VR.jT f cs ds hl h2).free up hf
   |dJ id off n cap size b hd hq hr h1 h2=>
    simp only[bF]at hf ⊢;split at hf
    .rename_i q hqq;split at hf
     .rename_i hle;rw[yAJ hle];obtain⟨b',cur,T,e1,e2,e3,e4⟩:=hs.box id q hd hqq;rw[hr]at e1;simp only[yCJ,yAb,yBG,yBl]at e1;subst e1;exact row b off n cap size 0 cur.toList q.cells T cur k (λk' hk=>ih k' Ah) e2 (hnew id b hd Cb) (λj v h=>h) e3 e4.1 hle h1 h2 hf
     .simp[PD.bQ]at hf
    .simp[PD.bQ]at hf
   |aR id ver off n cap size b hp h1 h2=>
    simp only[bF]at hf ⊢;split at hf
    .rename_i e sz' fO cs hqq;split at hf
     .rename_i hle;rw[yAJ hle];obtain⟨rfl,rfl,hle⟩:=hle;obtain⟨_,C,hr,_⟩:=(hp.2 _ _ _ cs hqq).2 rfl;obtain⟨b',C',cur,e1,e2,e3,e4,e5,e6,e7,e8⟩:=hs.row id e _ _ cs hp.1 hqq;rw[hr]at e1;simp only[yBN,yAb,yBG,yBl,yCp]at e1;obtain⟨rfl,rfl⟩:=e1;exact row b off n cap sz' 0 (cur.toList.take cs.length) cs e cur k (λk' hk=>ih k' Ah) e2 (hnew id b hp.1 Cb) (λj v h=>by
       rw[yAv]at h;split at h
       .exact h
       .cases h) e7 (λv rA=>e8 v (yAy rA)) hle h1 h2 hf
     .simp[PD.bQ]at hf
    .simp[PD.bQ]at hf
theorem aF.aB9{P:Program}{E:aE}(hE:aF P E)(hP:P.follows .mixedOrders=true){f:FuncId}{g:List PD->Option PD}
  (h:∀args p,g args=some p->∃N k p1 σ1,eN P E N 0 (.inl f) (args.map PD.strip) []=some (p1,σ1)/\(bF σ1 k p1).strip=p/\(bF σ1 k p1).bQ=true/\PD.fH (args.map PD.strip)=true) :
  aF P (E.add f (λ_ args σ=>match g args with|some p=>some (p,σ)|none=>none)):=by
 intro F fl f' g' args c vs p σ' hF hg hgo hs hX hv;unfold aE.add at hg;split at hg
 .rename_i e;subst e;simp only[yAb]at hg;subst hg;cases hga:g args with
  |none=>simp only[hga]at hgo;cases hgo
  |some q=>
   simp only[hga,yAb,yAc]at hgo;obtain⟨rfl,rfl⟩:=hgo;obtain⟨N,k,p1,σ1,hN,e1,e3,e2⟩:=h args q hga;have iN:aV c.bare vs (args.map PD.strip):=hv.strip.free (λa v h1 h2=>⟨(R7 a).2 h1,h2⟩) e2;have:=(BH hE hP hF N).fn (c:=c.bare) hN hs.bare (λ_ _ h=>h.elim) iN;refine⟨this.1,λm=>yCE (this.2 m) λe w' he=>?_⟩;cases e with
   |returned v=>
    obtain⟨c1,rfl,rfl,hs1,nx,hvv,_⟩:=he;have hgr:c.w.grownBy c1.w none:=⟨nx.os,nx.tape,nx.output,nx.size,λk hk _=>nx.frame k hk (λ_ h=>h.elim)⟩;have hsc:=hs.grow hgr;refine⟨c.at c1.w,rfl,rfl,hsc,Nx.grow hs hgr,?_,λ_ h=>.inl h⟩;have hav:∀a,c1.av a->(c.at c1.w).av a:=λa h1=>by
     have h3:c1.X a:=h1.1;rw[nx.X]at h3;exact h3
    have hnew:∀id b,c1.D id->bA (c1.ρ id)=some b->∀j,(c.at c1.w).av ⟨b,j,none⟩:=λid b hd hb j=>by
     have hge:c.w.heap.size<=b:=by
      rcases yCh b c.w.heap.size with hlt|hge
      .exact(nx.back id b hd hb hlt).1.elim
      .exact hge
     refine⟨hs.fresh _ hge,λi o hi ho=>?_⟩;have key:∀b',bA (c.ρ i)=some b'->b≠b':=λb' hb' e=>by
      have:=hs.lt i b' hi hb';omega
     cases o with
     |none=>trivial
     |box p=>exact key
     |own e size n=>intro b' hb' e;exact absurd e (key b' hb')
     |row e size ver ds=>exact key
     |map es=>trivial
     |mark=>trivial
     |loop st fr ps asg bd=>trivial
    have:=(aCr hs1 (c2:=c.at c1.w) rfl hav hnew k v p1 hvv e3).strip;rw[e1]at this;exact this
   |panicked ch=>exact he.elim
   |outgrown=>exact he.elim
 .exact gv
theorem aF.T8{P:Program}{E:aE}(hE:aF P E)(hP:P.follows .mixedOrders=true){f:FuncId}{g:List PD->Option PD}
  (h:∀args p,g args=some p->∃k p1 σ1,jL P E 0 (.inl f) (args.map PD.strip) [] p1 σ1/\(bF σ1 k p1).strip=p/\(bF σ1 k p1).bQ=true/\PD.fH (args.map PD.strip)=true) :
  aF P (E.add f (λ_ args σ=>match g args with|some p=>some (p,σ)|none=>none)):=
 hE.aB9 hP λargs p hg=>by
  obtain⟨k,p1,σ1,⟨N,hN⟩,r⟩:=h args p hg;exact⟨N,k,p1,σ1,hN N (yAk _),r⟩
def RunT(P:Program)(E:aE)(f:FuncId)(args:List PD)(p:PD):Prop:=∃k p1 σ1,jL P E 0 (.inl f) args [] p1 σ1/\(bF σ1 k p1).strip=p/\(bF σ1 k p1).bQ=true
theorem aF.aCs{P:Program}{E:aE}{f:FuncId}{α β:Type}(hE:aF P E)(hP:P.follows .mixedOrders=true){a:Em α}{r:Em β}{F:α->Option β}(h:∀x z,F x=some z->RunT P E f [a.aA x] (r.aA z)):aF P (E.add f (entry (bZ a r F))):=by
 refine hE.T8 hP λargs p hg=>?_
 match args,hg with
 | [q],hg=>
   simp only[bZ]at hg;split at hg
   .rename_i x hx;split at hg
    .rename_i z hz;simp only[yAb]at hg;subst hg;obtain⟨k,p1,σ1,e1,e2,e3⟩:=h x z hz;have:=Em.mY hx;exact⟨k,p1,σ1,by simpa [this]using e1,e2,e3,by simp[this,PD.fH,a.dX]⟩
    .cases hg
   .cases hg
theorem aF.aJV{P:Program}{E:aE}{f:FuncId}{α β γ:Type}(hE:aF P E)(hP:P.follows .mixedOrders=true){a:Em α}{b:Em β}{r:Em γ}{F:α->β->Option γ}(h:∀x y z,F x y=some z->RunT P E f [a.aA x,b.aA y] (r.aA z)) :
  aF P (E.add f (entry (dZ a b r F))):=by
 refine hE.T8 hP λargs p hg=>?_
 match args,hg with
 | [q,s],hg=>
   simp only[dZ]at hg;split at hg
   .rename_i x y hx hy;split at hg
    .rename_i z hz;simp only[yAb]at hg;subst hg;obtain⟨k,p1,σ1,e1,e2,e3⟩:=h x y z hz;have h1:=Em.mY hx;have h2:=Em.mY hy;exact⟨k,p1,σ1,by simpa [h1,h2]using e1,e2,e3,by simp[h1,h2,PD.fH,a.dX,b.dX]⟩
    .cases hg
   .cases hg
end Go.Kz
namespace Go.Kz
open Go Go.Proofs
@[simp] theorem Tryz.vV:cH prog 3=some 1:=Aj
@[simp] theorem Tryz.pz3:eR prog 3=some (.int .i64 0):=Aj
@[simp] theorem Tryz.pe3:iM prog 3=some (1,8):=Aj
@[simp] theorem Tryz.ps4:cH prog 4=some 1:=Aj
@[simp] theorem Tryz.ps5:cH prog 5=some 1:=Aj
@[simp] theorem Tryz.pz5:eR prog 5=some (.int .u8 0):=Aj
@[simp] theorem Tryz.ps9:cH prog 9=some 1:=Aj
@[simp] theorem Tryz.pz9:eR prog 9=some (.str []):=Aj
@[simp] theorem Tryz.aVd:cH prog 22=some 1:=Aj
@[simp] theorem Tryz.aVe:cH prog 23=some 1:=Aj
@[simp] theorem Tryz.aVf:cH prog 24=some 1:=Aj
@[simp] theorem Tryz.aVg:cH prog 26=some 3:=Aj
@[simp] theorem Tryz.aVh:cH prog 31=some 1:=Aj
@[simp] theorem Tryz.aVi:cH prog 32=some 1:=Aj
@[simp] theorem Tryz.aVj:cH prog 33=some 1:=Aj
@[simp] theorem Tryz.aVk:cH prog 35=some 4:=Aj
@[simp] theorem Tryz.aVl:eR prog 35=some (.agg [.str [],.slice 0 [] .full,.slice 0 [] .full,.slice 0 [] .full]):=Aj
@[simp] theorem Tryz.aVm:cH prog 41=some 1:=Aj
@[simp] theorem Tryz.aVn:eR prog 41=some (.slice 0 [] .full):=Aj
@[simp] theorem Tryz.aVo:cH prog 43=some 7:=Aj
@[simp] theorem Tryz.aVp:cH prog 45=some 2:=Aj
@[simp] theorem Tryz.aVq:eR prog 45=some (.agg [.int .i64 0,.int .i64 0]):=Aj
@[simp] theorem Tryz.aVr:cH prog 46=some 1:=Aj
@[simp] theorem Tryz.aVs:cH prog 48=some 6:=Aj
@[simp] theorem Tryz.aVt:eR prog 48=some (.agg [.str [],.str [],.int .i64 0,.int .i64 0,.int .i64 0,.slice 0 [] .full]):=Aj
@[simp] theorem Tryz.aVu:iM prog 48=some (6,80):=Aj
@[simp] theorem Tryz.aVv:cH prog 50=some 2:=Aj
@[simp] theorem Tryz.aVw:eR prog 50=some (.agg [.int .i64 0,.int .i64 0]):=Aj
@[simp] theorem Tryz.aVx:cH prog 51=some 1:=Aj
@[simp] theorem Tryz.aVy:cH prog 53=some 5:=Aj
@[simp] theorem Tryz.aVz:eR prog 53=some (.agg [.str [],.bool false,.int .i64 0,.int .i64 0,.slice 0 [] .full]):=Aj
@[simp] theorem Tryz.aVA:cH prog 54=some 1:=Aj
@[simp] theorem Tryz.aVB:cH prog 56=some 4:=Aj
@[simp] theorem Tryz.aVC:eR prog 56=some (.agg [.str [],.int .i64 0,.int .i64 0,.slice 0 [] .full]):=Aj
@[simp] theorem Tryz.aVD:cH prog 58=some 5:=Aj
@[simp] theorem Tryz.aVE:eR prog 58=some (.agg [.str [],.int .i64 0,.int .i64 0,.int .i64 0,.bool false]):=Aj
@[simp] theorem Tryz.aVF:cH prog 60=some 24:=Aj
@[simp] theorem Tryz.aVG:eR prog 60=some (.agg [.int .i64 0,.int .i64 0,.int .i64 0,.str [],.str [],.str [],.int .i64 0,.int .i64 0,.int .i64 0,.slice 0 [] .full,.str [],.bool false,.int .i64 0,.int .i64 0,.slice 0 [] .full,.str [],.int .i64 0,.int .i64 0,.slice 0 [] .full,.str [],.int .i64 0,.int .i64 0,.int .i64 0,.bool false]):=Aj
@[simp] theorem Tryz.aVH:cH prog 72=some 2:=Aj
@[simp] theorem Tryz.aVI:eR prog 72=some (.agg [.int .i64 0,.int .i64 0]):=Aj
@[simp] theorem Tryz.aVJ:cH prog 74=some 4:=Aj
@[simp] theorem Tryz.aVK:eR prog 74=some (.agg [.int .i64 0,.int .i64 0,.int .i64 0,.int .i64 0]):=Aj
@[simp] theorem Tryz.aVL:cH prog 89=some 2:=Aj
@[simp] theorem Tryz.aVM:eR prog 89=some (.agg [.int .i64 0,.int .i64 0]):=Aj
@[simp] theorem Tryz.aVN:cH prog 90=some 1:=Aj
@[simp] theorem Tryz.aVO:cH prog 92=some 3:=Aj
@[simp] theorem Tryz.aVP:eR prog 92=some (.agg [.int .i64 0,.int .i64 0,.slice 0 [] .full]):=Aj
@[simp] theorem Tryz.aVQ:cH prog 93=some 1:=Aj
@[simp] theorem Tryz.aVR:cH prog 95=some 4:=Aj
@[simp] theorem Tryz.aVS:eR prog 95=some (.agg [.int .u8 0,.int .u8 0,.bool false,.slice 0 [] .full]):=Aj
@[simp] theorem Tryz.aVT:cH prog 100=some 1:=Aj
@[simp] theorem Tryz.aVU:cH prog 101=some 5:=Aj
@[simp] theorem Tryz.aVV:cH prog 103=some 9:=Aj
@[simp] theorem Tryz.aVW:cH prog 106=some 4:=Aj
@[simp] theorem Tryz.aVX:cH prog 108=some 4:=Aj
@[simp] theorem Tryz.aVY:eR prog 108=some (.agg [.int .u8 0,.int .u8 0,.int .i8 0,.bool false]):=Aj
@[simp] theorem Tryz.aVZ:eR prog 126=some (.agg [.str [],.slice 0 [] .full,.slice 0 [] .full,.slice 0 [] .full,.str [],.slice 0 [] .full,.slice 0 [] .full,.slice 0 [] .full]):=Aj
@[simp] theorem Tryz.aV0:cH prog 175=some 3:=Aj
@[simp] theorem Tryz.aV1:eR prog 175=some (.agg [.slice 0 [] .full,.int .i64 0,.int .i64 0]):=Aj
@[simp] theorem Tryz.aV2:cH prog 226=some 1:=Aj
@[simp] theorem Tryz.aV3:eR prog 226=some (.int .u64 0):=Aj
@[simp] theorem Tryz.aV4:iM prog 226=some (1,8):=Aj
attribute [simp] underlying1 underlying2 underlying3 underlying4 underlying5 underlying6 underlying7 underlying8 underlying9 underlying10 underlying11 underlying12 underlying13 underlying14 underlying15 underlying16 underlying17 underlying18 underlying19 underlying20 underlying21 underlying22 underlying23 underlying24 underlying25 underlying26 underlying27 underlying28 underlying29 underlying30 underlying31 underlying32 underlying33 underlying34 underlying35 underlying36 underlying37 underlying38 underlying39 underlying40 underlying41 underlying42 underlying43 underlying44 underlying45 underlying46 underlying47 underlying48 underlying49 underlying50 underlying51 underlying52 underlying53 underlying54 underlying55 underlying56 underlying57 underlying58 underlying59 underlying60 underlying61 underlying62 underlying64 underlying66 underlying67 underlying68 underlying69 underlying71 underlying72 underlying73 underlying74 underlying75 underlying77 underlying78 underlying79 underlying80 underlying82 underlying83 underlying84 underlying85 underlying87 underlying88 underlying89 underlying90 underlying91 underlying92 underlying93 underlying94 underlying95 underlying96 underlying97 underlying98 underlying99 underlying100 underlying101 underlying102 underlying103 underlying104 underlying105 underlying106 underlying107 underlying108 underlying109 underlying110 underlying111 underlying112 underlying113 underlying115 underlying116 underlying117 underlying118 underlying119 underlying120 underlying121 underlying122 underlying123 underlying124 underlying125 underlying126 underlying127 underlying128 underlying129 underlying130 underlying131 underlying132 underlying133 underlying134 underlying135 underlying136 underlying137 underlying138 underlying139 underlying140 underlying141 underlying142 underlying143 underlying144 underlying145 underlying147 underlying148 underlying149 underlying150 underlying151 underlying152 underlying153 underlying154 underlying155 underlying157 underlying158 underlying159 underlying160 underlying161 underlying162 underlying163 underlying164 underlying165 underlying166 underlying167 underlying168 underlying169 underlying170 underlying171 underlying172 underlying173 underlying174 underlying175 underlying176 underlying177 underlying178 underlying179 underlying180 underlying181 underlying182 underlying183 underlying185 underlying186 underlying187 underlying188 underlying189 underlying190 underlying191 underlying192 underlying193 underlying194 underlying195 underlying196 underlying197 underlying198 underlying199 underlying200 underlying201 underlying202 underlying203 underlying204 underlying205 underlying206 underlying207 underlying208 underlying209 underlying210 underlying211 underlying212 underlying213 underlying215 underlying216 underlying217 underlying218 underlying219 underlying220 underlying221 underlying222 underlying223 underlying224 underlying225 underlying226 underlying227 underlying228 underlying229 underlying230 underlying231 underlying232 underlying233 underlying235 underlying236 underlying237 underlying238 underlying239 underlying240 underlying242 underlying243 underlying244 underlying245 underlying246 underlying247 underlying249 underlying250 underlying251 underlying252 underlying253 underlying254 underlying255 underlying256 underlying257 underlying258 underlying259 underlying260 underlying261 underlying262 underlying263 underlying264 underlying265 underlying266 underlying267 underlying268 underlying269 underlying270 underlying271 underlying273 underlying274 underlying275 underlying276 underlying278 underlying280 underlying281 underlying282 underlying283 underlying284 underlying285 underlying286 underlying287 underlying288 underlying289 underlying290 underlying291 underlying292
section
set_option maxRecDepth 10000
theorem Tryz.aCt:prog.eqGuardType prog.depth 45=false:=Aj
theorem Tryz.aCu:r5 prog 12 45=some [.i .i64,.i .i64]:=Aj
theorem Tryz.aCv:fQ prog 45=some true:=Aj
@[simp] theorem Tryz.aV5{a0 b0:Int}{a1 b1:Int}:dW prog .eql 45 (.agg [.int .i64 a0,.int .i64 a1]) (.agg [.int .i64 b0,.int .i64 b1])=some (.bool (decide (a0=b0)&&(decide (a1=b1)&&true))):=MW Tryz.aCt Tryz.aCu Tryz.aCv rfl
@[simp] theorem Tryz.aV6{a0 b0:Int}{a1 b1:Int}:dW prog .neq 45 (.agg [.int .i64 a0,.int .i64 a1]) (.agg [.int .i64 b0,.int .i64 b1])=some (.bool (!(decide (a0=b0)&&(decide (a1=b1)&&true)))):=MY Tryz.aCt Tryz.aCu Tryz.aCv rfl
theorem Tryz.aCw:prog.eqGuardType prog.depth 50=false:=Aj
theorem Tryz.aCx:r5 prog 12 50=some [.i .i64,.i .i64]:=Aj
theorem Tryz.aCy:fQ prog 50=some true:=Aj
@[simp] theorem Tryz.aV7{a0 b0:Int}{a1 b1:Int}:dW prog .eql 50 (.agg [.int .i64 a0,.int .i64 a1]) (.agg [.int .i64 b0,.int .i64 b1])=some (.bool (decide (a0=b0)&&(decide (a1=b1)&&true))):=MW Tryz.aCw Tryz.aCx Tryz.aCy rfl
@[simp] theorem Tryz.aV8{a0 b0:Int}{a1 b1:Int}:dW prog .neq 50 (.agg [.int .i64 a0,.int .i64 a1]) (.agg [.int .i64 b0,.int .i64 b1])=some (.bool (!(decide (a0=b0)&&(decide (a1=b1)&&true)))):=MY Tryz.aCw Tryz.aCx Tryz.aCy rfl
theorem Tryz.aCz:prog.eqGuardType prog.depth 58=false:=Aj
theorem Tryz.aCA:r5 prog 12 58=some [.s,.i .i64,.i .i64,.i .i64,.b]:=Aj
theorem Tryz.aCB:fQ prog 58=some true:=Aj
@[simp] theorem Tryz.aV9{a0 b0:Gd}{a1 b1:Int}{a2 b2:Int}{a3 b3:Int}{a4 b4:Bool}:dW prog .eql 58 (.agg [.str a0,.int .i64 a1,.int .i64 a2,.int .i64 a3,.bool a4]) (.agg [.str b0,.int .i64 b1,.int .i64 b2,.int .i64 b3,.bool b4])=some (.bool (decide (a0=b0)&&(decide (a1=b1)&&(decide (a2=b2)&&(decide (a3=b3)&&(decide (a4=b4)&&true)))))):=MW Tryz.aCz Tryz.aCA Tryz.aCB rfl
@[simp] theorem Tryz.aWa{a0 b0:Gd}{a1 b1:Int}{a2 b2:Int}{a3 b3:Int}{a4 b4:Bool}:dW prog .neq 58 (.agg [.str a0,.int .i64 a1,.int .i64 a2,.int .i64 a3,.bool a4]) (.agg [.str b0,.int .i64 b1,.int .i64 b2,.int .i64 b3,.bool b4])=some (.bool (!(decide (a0=b0)&&(decide (a1=b1)&&(decide (a2=b2)&&(decide (a3=b3)&&(decide (a4=b4)&&true))))))):=MY Tryz.aCz Tryz.aCA Tryz.aCB rfl
theorem Tryz.aCC:prog.eqGuardType prog.depth 89=false:=Aj
theorem Tryz.aCD:r5 prog 12 89=some [.i .i64,.i .i64]:=Aj
theorem Tryz.aCE:fQ prog 89=some true:=Aj
@[simp] theorem Tryz.aWb{a0 b0:Int}{a1 b1:Int}:dW prog .eql 89 (.agg [.int .i64 a0,.int .i64 a1]) (.agg [.int .i64 b0,.int .i64 b1])=some (.bool (decide (a0=b0)&&(decide (a1=b1)&&true))):=MW Tryz.aCC Tryz.aCD Tryz.aCE rfl
@[simp] theorem Tryz.aWc{a0 b0:Int}{a1 b1:Int}:dW prog .neq 89 (.agg [.int .i64 a0,.int .i64 a1]) (.agg [.int .i64 b0,.int .i64 b1])=some (.bool (!(decide (a0=b0)&&(decide (a1=b1)&&true)))):=MY Tryz.aCC Tryz.aCD Tryz.aCE rfl
end
def Cl0:aE:=λ_=>none
theorem aQb{P:Program}:aF P Cl0:=λ_ hg=>by cases hg
theorem bI:prog.follows .mixedOrders=true:=Aj
noncomputable def Cl1:aE:=Cl0.add 73 (sM prog 31 6)
theorem aQc:aF prog Cl1:=aQb.FH bI 31 6 48 rfl Aj Aj Aj Bs
noncomputable def Cl2:aE:=Cl1.add 74 (sM prog 32 5)
theorem aQd:aF prog Cl2:=aQc.FH bI 32 5 53 rfl Aj Aj Aj Bs
noncomputable def Cl3:aE:=Cl2.add 75 (sM prog 33 5)
theorem aQe:aF prog Cl3:=aQd.FH bI 33 5 58 rfl Aj Aj Aj Bs
noncomputable def Cl4:aE:=Cl3.add 109 (sM prog 46 1)
theorem aQf:aF prog Cl4:=aQe.FH bI 46 1 3 rfl Aj Aj Aj Bs
noncomputable def Cl5:aE:=Cl4.add 110 (sM prog 51 4)
theorem aQg:aF prog Cl5:=aQf.FH bI 51 4 56 rfl Aj Aj Aj Bs
noncomputable def Cl6:aE:=Cl5.add 118 (sM prog 54 3)
theorem aQh:aF prog Cl6:=aQg.FH bI 54 3 92 rfl Aj Aj Aj Bs
noncomputable def Cl7:aE:=Cl6.add 119 (sM prog 90 2)
theorem aQi:aF prog Cl7:=aQh.FH bI 90 2 89 rfl Aj Aj Aj Bs
abbrev ClE:aE:=Cl7
theorem aCN:aF prog ClE:=aQi
end Go.Kz
namespace Go.Kz
section
noncomputable section
section
variable{β:Type}
def dM(n:Nat)(k:Nat->β):β:=match n with|0=>k 0|m+1=>k (m+1)
theorem EC(n:Nat)(k:Nat->β):dM n k=k n:=by cases n<;>rfl
def N7(z:Int)(k:Int->β):β:=match z with|.ofNat n=>dM n λn=>k (.ofNat n)|.negSucc n=>dM n λn=>k (.negSucc n)
theorem aCa(z:Int)(k:Int->β):N7 z k=k z:=by cases z<;>simp[N7,EC]
def G0(b:UInt8)(k:UInt8->β):β:=dM b.toNat λn=>k (UInt8.ofNat n)
theorem aCb(b:UInt8)(k:UInt8->β):G0 b k=k b:=by simp[G0,EC]
def mA{α:Type}(f:α->(α->β)->β)(l:List α):(List α->β)->β:=
 List.rec (motive:=λ_=>(List α->β)->β) (λk=>k []) (λx _ ih k=>f x λx'=>ih λxs'=>k (x'::xs')) l
theorem B0{α:Type}{f:α->(α->β)->β}(hf:∀x k,f x k=k x):∀(l:List α) (k:List α->β),mA f l k=k l
 | [],_=>rfl
 |x::xs,k=>by
  show f x (λx'=>mA f xs λxs'=>k (x'::xs'))=_
  rw[hf,B0 hf xs]
def N8(b:Bool)(k:Bool->β):β:=match b with|true=>k true|false=>k false
theorem TU(b:Bool)(k:Bool->β):N8 b k=k b:=by cases b<;>rfl
def TV(x:IntKind)(k:IntKind->β):β:=match x with
 |.i8=>k .i8|.i16=>k .i16|.i32=>k .i32|.i64=>k .i64|.u8=>k .u8|.u16=>k .u16|.u32=>k .u32|.u64=>k .u64
theorem aCc(x:IntKind)(k:IntKind->β):TV x k=k x:=by cases x<;>rfl
def N9(t:Tok)(k:Tok->β):β:=match t with
 |.any=>k .any|.full=>k .full|.nil=>k .nil|.jF=>k .jF|.jR=>k .jR|.own id=>dM id λid=>k (.own id)
theorem aCd(t:Tok)(k:Tok->β):N9 t k=k t:=by cases t<;>simp[N9,EC]
def uV:Nat->PD->(PD->β)->β
 |0,p,k=>k p
 |n+1,p,k=>match p with
  |.bool b=>N8 b λb=>k (.bool b)
  |.int x z=>TV x λx=>N7 z λz=>k (.int x z)
  |.str l=>mA G0 l λl=>k (.str l)
  |.agg cs=>mA (uV n) cs λcs=>k (.agg cs)
  |.slice s xs t=>dM s λs=>mA (uV n) xs λxs=>N9 t λt=>k (.slice s xs t)
  |.ptr id off=>dM id λid=>dM off λoff=>k (.ptr id off)
  |.eO cs off=>mA (uV n) cs λcs=>dM off λoff=>k (.eO cs off)
  |.gR=>k .gR
  |.func f cs=>dM f λf=>mA (uV n) cs λcs=>k (.func f cs)
  |.jT f cs=>dM f λf=>mA (uV n) cs λcs=>k (.jT f cs)
  |.yield id=>dM id λid=>k (.yield id)
  |.iX=>k .iX
  |.fT v=>k (.fT v)
  |.typed t cs=>dM t λt=>mA (uV n) cs λcs=>k (.typed t cs)
  |.dJ id off m sz=>dM id λid=>dM off λoff=>dM m λm=>dM sz λsz=>k (.dJ id off m sz)
  |.aR id v off m sz=>dM id λid=>dM v λv=>dM off λoff=>dM m λm=>dM sz λsz=>k (.aR id v off m sz)
  |.dH id v off=>dM id λid=>dM v λv=>dM off λoff=>k (.dH id v off)
  |.fK id=>dM id λid=>k (.fK id)
  |.iface t q=>dM t λt=>uV n q λq=>k (.iface t q)
  |.aI vs=>mA (uV n) vs λvs=>k (.aI vs)
theorem TW:∀(n:Nat) (p:PD) (k:PD->β),uV n p k=k p
 |0,_,_=>rfl
 |n+1,p,k=>by
  have h:∀(l:List PD) (k:List PD->β),mA (uV n) l k=k l:=B0 (TW n)
  have hb:∀(l:List UInt8) (k:List UInt8->β),mA G0 l k=k l:=B0 aCb
  cases p<;>simp[uV,EC,aCa,TU,aCc,aCd,h,hb,TW n]
def B6{α:Type}(l:List α)(k:List α->β):β:=mA (λx k=>k x) l k
theorem OA{α:Type}(l:List α)(k:List α->β):B6 l k=k l:=B0 (λ_ _=>rfl) l k
def TX(p:PD)(k:PD->β):β:=match p with
 |.agg cs=>B6 cs λcs=>k (.agg cs)
 |.typed t cs=>B6 cs λcs=>k (.typed t cs)
 |p=>k p
theorem aJH(p:PD)(k:PD->β):TX p k=k p:=by cases p<;>simp[TX,OA]
def J0(o:aB)(k:aB->β):β:=match o with
 |.none=>k .none
 |.box p=>TX p λp=>k (.box p)
 |.own e s n=>dM e λe=>dM s λs=>dM n λn=>k (.own e s n)
 |.row e s v cs=>dM e λe=>dM s λs=>dM v λv=>B6 cs λcs=>k (.row e s v cs)
 |.map es=>B6 es λes=>k (.map es)
 |.mark=>k .mark
 |.loop st fr ps a b=>B6 fr λfr=>k (.loop st fr ps a b)
theorem aCe(o:aB)(k:aB->β):J0 o k=k o:=by cases o<;>simp[J0,aJH,EC,OA]
def v7(σ:List aB)(k:List aB->β):β:=mA J0 σ k
theorem G1(σ:List aB)(k:List aB->β):v7 σ k=k σ:=B0 aCe σ k
def J1(p:PD)(k:PD->β):β:=match p with
 |.bool b=>N8 b λb=>k (.bool b)
 |.int x z=>k (.int x z)
 |.str l=>k (.str l)
 |.agg cs=>k (.agg cs)
 |.slice s xs t=>k (.slice s xs t)
 |.ptr id off=>k (.ptr id off)
 |.eO cs off=>k (.eO cs off)
 |.gR=>k .gR
 |.func f cs=>k (.func f cs)
 |.jT f cs=>k (.jT f cs)
 |.yield id=>k (.yield id)
 |.iX=>k .iX
 |.fT v=>k (.fT v)
 |.typed t cs=>k (.typed t cs)
 |.dJ id off m sz=>k (.dJ id off m sz)
 |.aR id v off m sz=>k (.aR id v off m sz)
 |.dH id v off=>k (.dH id v off)
 |.fK id=>k (.fK id)
 |.iface t q=>k (.iface t q)
 |.aI vs=>k (.aI vs)
theorem TY(p:PD)(k:PD->β):J1 p k=k p:=by cases p<;>simp[J1,TU]
def v8:Nat->PD->(PD->β)->β
 |0,p,k=>J1 p k
 |n+1,p,k=>match p with
  |.bool b=>N8 b λb=>k (.bool b)
  |.int x z=>TV x λx=>N7 z λz=>k (.int x z)
  |.str l=>mA G0 l λl=>k (.str l)
  |.agg cs=>mA (v8 n) cs λcs=>k (.agg cs)
  |.slice s xs t=>dM s λs=>mA (v8 n) xs λxs=>N9 t λt=>k (.slice s xs t)
  |.ptr id off=>dM id λid=>dM off λoff=>k (.ptr id off)
  |.eO cs off=>B6 cs λcs=>dM off λoff=>k (.eO cs off)
  |.func f cs=>dM f λf=>mA (v8 n) cs λcs=>k (.func f cs)
  |.jT f cs=>dM f λf=>mA (v8 n) cs λcs=>k (.jT f cs)
  |.dJ id off m sz=>dM id λid=>dM off λoff=>dM m λm=>dM sz λsz=>k (.dJ id off m sz)
  |.aR id v off m sz=>dM id λid=>dM v λv=>dM off λoff=>dM m λm=>dM sz λsz=>k (.aR id v off m sz)
  |.dH id v off=>dM id λid=>dM v λv=>dM off λoff=>k (.dH id v off)
  |.fK id=>dM id λid=>k (.fK id)
  |.iface t q=>dM t λt=>v8 n q λq=>k (.iface t q)
  |.aI vs=>mA (v8 n) vs λvs=>k (.aI vs)
  |p=>k p
theorem OB:∀(n:Nat) (p:PD) (k:PD->β),v8 n p k=k p
 |0,p,k=>TY p k
 |n+1,p,k=>by
  have h:∀(l:List PD) (k:List PD->β),mA (v8 n) l k=k l:=B0 (OB n)
  have hb:∀(l:List UInt8) (k:List UInt8->β),mA G0 l k=k l:=B0 aCb
  cases p<;>simp[v8,EC,aCa,TU,aCc,aCd,h,hb,OB n,OA]
def B7(l:List aB)(n:Nat):(List aB->β)->β:=
 List.rec (motive:=λ_=>Nat->(List aB->β)->β) (λ_ k=>k []) (λx r ih n k=>Nat.rec (motive:=λ_=>β) (J0 x λx=>k (x::r)) (λn _=>ih n λr=>k (x::r)) n) l n
theorem aCf:∀(l:List aB) (n:Nat) (k:List aB->β),B7 l n k=k l
 | [],_,_=>rfl
 |x::r,0,k=>by
  show J0 x (λx=>k (x::r))=_
  rw[aCe]
 |x::r,n+1,k=>by
  show B7 r n (λr=>k (x::r))=_
  rw[aCf r]
def handed(p:PD):Option Nat:=match p with
 |.ptr id _=>some id
 |.dH id _ _=>some id
 |.dJ id _ _ _=>some id
 |.aR id _ _ _ _=>some id
 |.fK id=>some id
 |.slice _ _ (.own id)=>some id
 |_=>none
def OC(fr:List PD)(σ:List aB)(op:Op)(p:PD)(σ':List aB)(k:List aB->β):β:=match op with
 |.load _ _=>k σ'
 |.lookup _ _ _ _=>k σ'
 |.buildSlice _ _ _=>k σ'
 |.store _ x _=>(match aZ fr x with|some a=>(match handed a with|some id=>B7 σ' id k|none=>v7 σ' k)|none=>v7 σ' k)
 |.alloc _=>B7 σ' σ.length k
 |.box _ _=>B7 σ' σ.length k
 |.mapUpdate _ x _ _=>(match aZ fr x with|some a=>(match handed a with|some id=>B7 σ' id k|none=>v7 σ' k)|none=>v7 σ' k)
 |.makeMap _ _=>B7 σ' σ.length k
 |.call { callee:=.builtin .append,.. }=>(match handed p with|some id=>B7 σ' id k|none=>k σ')
 |_=>v7 σ' k
theorem aCg(fr:List PD)(σ:List aB)(op:Op)(p:PD)(σ':List aB)(k:List aB->β):OC fr σ op p σ' k=k σ':=by
 unfold OC;split<;>(try split)<;>(try split)<;>simp[aCf,G1]
def TZ(l:List PD)(n:Nat)(p:PD):(List PD->β)->β:=
 List.rec (motive:=λ_=>Nat->(List PD->β)->β) (λ_ k=>k []) (λx r ih n k=>Nat.rec (motive:=λ_=>β) (k (p::r)) (λn _=>ih n λr=>k (x::r)) n) l n
theorem aCh:∀(l:List PD) (n:Nat) (p:PD) (k:List PD->β),TZ l n p k=k (l.set n p)
 | [],_,_,_=>rfl
 |_::_,0,_,_=>rfl
 |x::r,n+1,p,k=>by
  show TZ r n p (λr=>k (x::r))=_
  rw[aCh r];rfl
def uW(fr:List PD)(dst:Option Tmp)(p:PD)(k:List PD->β):β:=match dst with
 |some d=>TZ fr d p k
 |none=>k fr
theorem G2(fr:List PD)(dst:Option Tmp)(p:PD)(k:List PD->β):uW fr dst p k=k (bE fr dst p):=by cases dst<;>simp[uW,bE,aCh]
def J2(r:Option (PD×List aB))(k:PD->List aB->β)(d:β):β:=match r with
 |some (p,σ)=>uV 30 p λp=>v7 σ λσ=>k p σ
 |none=>d
theorem aJI(r:Option (PD×List aB))(k:PD->List aB->β)(d:β):J2 r k d=match r with|some (p,σ)=>k p σ|none=>d:=by
 cases r with
 |none=>rfl
 |some x=>obtain⟨p,σ⟩:=x;simp[J2,TW,G1]
end
variable{P:Program}{E:aE}
def aJJ:Op->Bool
 |.move _|.assign _|.pick _ _ _|.extract _ _|.load _ _=>true
 |_=>false
def G3{β:Type}(op:Op)(p:PD)(k:PD->β):β:=if aJJ op then J1 p k else v8 3 p k
theorem OD{β:Type}(op:Op)(p:PD)(k:PD->β):G3 op p k=k p:=by unfold G3;split<;>simp[TY,OB]
def G4{β:Type}(P:Program)(call:dA)(fl:Nat)(fr:List PD)(σ:List aB)(op:Op)(k:PD->List aB->β)(d:β):β:=
 match gP fr op with
 |some (tg,args)=>mA J1 args λargs=>(match call fl tg args σ with
  |some (p,σ)=>k p σ
  |none=>d)
 |none=>match eK P fr op with
  |some p=>G3 op p λp=>k p σ
  |none=>match dE P fl fr σ op with
   |some (p,σ')=>G3 op p λp=>OC fr σ op p σ' λσ'=>k p σ'
   |none=>d
theorem T1{β:Type}(call:dA)(fl:Nat)(fr:List PD)(σ:List aB)(op:Op)(k:PD->List aB->β)(d:β):G4 P call fl fr σ op k d=match cT P call fl fr σ op with|some (p,σ)=>k p σ|none=>d:=by
 unfold G4 cT;cases gP fr op with
 |some x=>obtain⟨tg,args⟩:=x;simp only[B0 TY]
 |none=>
  simp only[pop];cases eK P fr op with
  |some p=>simp[OD]
  |none=>
   exact rq
def OE(P:Program)(call:dA)(fl:Nat)(ops:Array Oper)(l:List Oper):List PD->List aB->Option (List PD×List aB):=
 List.rec (motive:=λ_=>List PD->List aB->Option (List PD×List aB)) (λfr σ=>some (fr,σ))
  (λo _ ih fr σ=>if Region.wanted o (bR ops fr)then G4 P call fl fr σ o.op (λp σ'=>uW fr o.dst p λfr=>ih fr σ') none
   else uW fr o.dst (.aI []) λfr=>ih fr σ) l
theorem T2(call:dA)(fl:Nat)(ops:Array Oper):∀(l:List Oper) (fr:List PD) (σ:List aB),OE P call fl ops l fr σ=eF P call fl ops l fr σ
 | [],_,_=>rfl
 |o::rest,fr,σ=>by
  show(if Region.wanted o (bR ops fr)then G4 P call fl fr σ o.op (λp σ'=>uW fr o.dst p λfr=>OE P call fl ops rest fr σ') none
   else uW fr o.dst (.aI []) λfr=>OE P call fl ops rest fr σ)=_
  unfold eF;split
  .rw[T1];cases cT P call fl fr σ o.op with
   |none=>rfl
   |some x=>obtain⟨p,σ'⟩:=x;simp only[G2,T2 call fl ops rest]
  .simp only[G2,T2 call fl ops rest]
def J3(P:Program)(call:dA)(fl:Nat)(ops:Array Oper)(fr:List PD)(σ:List aB):Option (List PD×List aB):=
 match OE P call fl ops ops.toList fr σ with
 |some x=>some x
 |none=>NP P call fl ops ops.toList fr σ
theorem aJK(call:dA)(fl:Nat)(ops:Array Oper)(fr:List PD)(σ:List aB):J3 P call fl ops fr σ=BM P call fl ops fr σ:=by
 unfold J3 BM;rw[T2];rfl
def J4{β:Type}(P:Program)(call:dA)(fl:Nat)(free:Bool)(i:Nat)(fr:List PD)(σ:List aB)(op:Op)(k:PD->List aB->β)(d:β):β:=
 if iF op then(match eK P fr op with|some p=>G3 op p λp=>k p σ|none=>d)
 else if dF op then dM i λi=>k (.ptr i 0) σ
 else if eM op&&!free then G4 P call (max fl σ.length) fr σ op (λp σ'=>v7 (σ++σ'.drop σ.length) λσ'=>k p σ') d
 else if eM op then G4 P call fl fr σ op k d
 else match dE P fl fr σ op with
  |some (p,σ')=>G3 op p λp=>OC fr σ op p σ' λσ'=>k p σ'
  |none=>d
theorem aCi{β:Type}(call:dA)(fl:Nat)(free:Bool)(i:Nat)(fr:List PD)(σ:List aB)(op:Op)(k:PD->List aB->β)(d:β):J4 P call fl free i fr σ op k d=match l6 P call fl free i fr σ op with|some (p,σ)=>k p σ|none=>d:=by
 unfold J4 l6;split
 .cases eK P fr op<;>simp[OD]
 .split
  .simp[EC]
  .split
   .rw[T1];cases cT P call (max fl σ.length) fr σ op with
    |none=>rfl
    |some x=>obtain⟨p,σ'⟩:=x;simp[G1]
   .split
    .rw[T1]
    .exact rq
def G5(P:Program)(call:dA)(fl:Nat)(ops:Array Oper)(ms:List Nat):Nat->Nat->List Oper->List PD->List aB->List (Option Nat)->Option (List (Option Nat)×Gc×List aB)
 |_,_,[],fr,σ,ft=>some (ft.reverse,fr,σ)
 |i,k,o::rest,fr,σ,ft=>
  if Region.wanted o (bR ops fr)then
   J4 P call fl (kI ops.toList ms i) k fr σ o.op (λp σ'=>uW fr o.dst p λfr'=>G5 P call fl ops ms (i+1) (if dF o.op then k+1 else k) rest fr' σ' (lK fr o.op::ft)) none
  else uW fr o.dst (.aI []) λfr'=>G5 P call fl ops ms (i+1) (if dF o.op then k+1 else k) rest fr' σ (none::ft)
theorem T3(call:dA)(fl:Nat)(ops:Array Oper)(ms:List Nat):∀(l:List Oper) (i k:Nat) (fr:List PD) (σ:List aB) (ft:List (Option Nat)),
  G5 P call fl ops ms i k l fr σ ft=match eW P call fl ops ms i k l fr σ with|some (tr,fr',σ')=>some (ft.reverse++tr.map TE.iZ,fr',σ')|none=>none
 | [],i,k,fr,σ,ft=>by simp[G5,eW]
 |o::rest,i,k,fr,σ,ft=>by
  unfold G5 eW;simp only;split
  .rw[aCi];cases l6 P call fl (kI ops.toList ms i) k fr σ o.op with
   |none=>rfl
   |some x=>
    obtain⟨p,σ'⟩:=x;simp only[G2,T3 call fl ops ms rest];cases eW P call fl ops ms (i+1) (if dF o.op=true then k+1 else k) rest (bE fr o.dst p) σ' with
    |none=>rfl
    |some y=>obtain⟨tr,fr',zS⟩:=y;simp
  .simp only[G2,T3 call fl ops ms rest];cases eW P call fl ops ms (i+1) (if dF o.op=true then k+1 else k) rest (bE fr o.dst (.aI [])) σ with
   |none=>rfl
   |some y=>obtain⟨tr,fr',zS⟩:=y;simp
def T4(ops:List Oper)(ms:List Nat)(ft:List (Option Nat)):Bool:=
 (List.range ops.length).all λk=>!fA iP ops k||(List.range ops.length).all λi=>!fA fB ops i||!loose ms i k ||
  match (ft[i]?).bind id,(ft[k]?).bind id with
  |some a,some b=>a != b
  |_,_=>true
theorem aJL(ops:List Oper)(ms:List Nat)(tr:List TE):T4 ops ms (tr.map TE.iZ)=pE ops ms tr:=by
 have h:∀i,((tr.map TE.iZ)[i]?).bind id=(tr[i]?).bind TE.iZ:=λi=>by
  rw[yAo];cases tr[i]?<;>rfl
 unfold T4 pE;simp only[h];rfl
def T5(ops:Array Oper):List (Oper×Bool):=ops.toList.zipIdx.map λx=>(x.1,kI ops.toList (cN ops.toList []) x.2)
def calm(ops:Array Oper):Bool:=vW ops (cN ops.toList [])&&(List.range ops.toList.length).all λk=>!fA iP ops.toList k||(List.range ops.toList.length).all λi=>!fA fB ops.toList i||!loose (cN ops.toList []) i k
def ED(P:Program)(call:dA)(fl:Nat)(ops:Array Oper)(l:List (Oper×Bool)):Nat->List PD->List aB->Option (List PD×List aB):=
 List.rec (motive:=λ_=>Nat->List PD->List aB->Option (List PD×List aB)) (λ_ fr σ=>some (fr,σ))
  (λo _ ih k fr σ=>if Region.wanted o.1 (bR ops fr)then J4 P call fl o.2 k fr σ o.1.op (λp σ'=>uW fr o.1.dst p λfr'=>ih (if dF o.1.op then k+1 else k) fr' σ') none
   else uW fr o.1.dst (.aI []) λfr'=>ih (if dF o.1.op then k+1 else k) fr' σ) l
theorem T6(call:dA)(fl:Nat)(ops:Array Oper)(ms:List Nat):∀(l:List Oper) (i k:Nat) (fr:List PD) (σ:List aB),
  ED P call fl ops ((l.zipIdx i).map λx=>(x.1,kI ops.toList ms x.2)) k fr σ=match eW P call fl ops ms i k l fr σ with|some (_,fr',σ')=>some (fr',σ')|none=>none
 | [],i,k,fr,σ=>rfl
 |o::rest,i,k,fr,σ=>by
  show(if Region.wanted o (bR ops fr)then J4 P call fl (kI ops.toList ms i) k fr σ o.op (λp σ'=>uW fr o.dst p λfr'=>ED P call fl ops ((rest.zipIdx (i+1)).map λx=>(x.1,kI ops.toList ms x.2)) (if dF o.op then k+1 else k) fr' σ') none
   else uW fr o.dst (.aI []) λfr'=>ED P call fl ops ((rest.zipIdx (i+1)).map λx=>(x.1,kI ops.toList ms x.2)) (if dF o.op then k+1 else k) fr' σ)=_
  unfold eW;simp only;split
  .rw[aCi];cases l6 P call fl (kI ops.toList ms i) k fr σ o.op with
   |none=>rfl
   |some x=>
    obtain⟨p,σ'⟩:=x;simp only[G2,T6 call fl ops ms rest];cases eW P call fl ops ms (i+1) (if dF o.op=true then k+1 else k) rest (bE fr o.dst p) σ' with
    |none=>rfl
    |some y=>rfl
  .simp only[G2,T6 call fl ops ms rest];cases eW P call fl ops ms (i+1) (if dF o.op=true then k+1 else k) rest (bE fr o.dst (.aI [])) σ with
   |none=>rfl
   |some y=>rfl
theorem aJM{ops:Gg}(h:calm ops=true)(tr:List TE):vW ops (cN ops.toList [])=true/\pE ops.toList (cN ops.toList []) tr=true:=by
 simp only[calm,yAr]at h;refine⟨h.1,?_⟩;have h2:=h.2;simp only[pE,yAn,yAX,yBR]at h2 ⊢;intro k hk;rcases h2 k hk with h3|h3
 .exact .inl h3
 .refine .inr λi hi=>.inl ?_
  rcases h3 i hi with h4|h4
  .exact .inl h4
  .exact .inr h4
def J5(P:Program)(call:dA)(fl:Nat)(ops:Array Oper)(fr:List PD)(σ:List aB):Option (List PD×List aB):=
 if calm ops then
  match nQ P ops.toList with
  |some []=>(match ED P call fl ops (T5 ops) σ.length fr σ with
   |some x=>some x
   |none=>nS P call fl ops fr σ)
  |some (h::hs)=>v7 (σ++h::hs) λσ1=>(match ED P call fl ops (T5 ops) σ.length fr σ1 with
   |some x=>some x
   |none=>nS P call fl ops fr σ)
  |none=>nS P call fl ops fr σ
 else if vW ops (cN ops.toList [])then
  match nQ P ops.toList with
  |some hs=>v7 (σ++hs) λσ1=>(match G5 P call fl ops (cN ops.toList []) 0 σ.length ops.toList fr σ1 []with
   |some (ft,fr',σ')=>if T4 ops.toList (cN ops.toList []) ft then some (fr',σ')else nS P call fl ops fr σ
   |none=>nS P call fl ops fr σ)
  |none=>nS P call fl ops fr σ
 else nS P call fl ops fr σ
theorem aCj(call:dA)(fl:Nat)(ops:Array Oper)(fr:List PD)(σ hs:List aB)(hc:calm ops=true)(hh:nQ P ops.toList=some hs) :
  (match ED P call fl ops (T5 ops) σ.length fr (σ++hs)with
   |some x=>some x
   |none=>nS P call fl ops fr σ)=nS P call fl ops fr σ:=by
 have he:=T6 (P:=P) call fl ops (cN ops.toList []) ops.toList 0 σ.length fr (σ++hs);show(match ED P call fl ops (ops.toList.zipIdx.map λx=>(x.1,kI ops.toList (cN ops.toList []) x.2)) σ.length fr (σ++hs)with|some x=>some x|none=>_)=_
 rw[he];cases hd:eW P call fl ops (cN ops.toList []) 0 σ.length ops.toList fr (σ++hs)with
 |none=>rfl
 |some y=>
  obtain⟨tr,fr',σ'⟩:=y;obtain⟨hr,hf⟩:=aJM hc tr;exact nh
theorem aJN(call:dA)(fl:Nat)(ops:Array Oper)(fr:List PD)(σ:List aB):J5 P call fl ops fr σ=nS P call fl ops fr σ:=by
 unfold J5;split
 .rename_i hc;split
  .rename_i hh;have:=aCj (P:=P) call fl ops fr σ [] hc hh;rw[yAl]at this;exact this
  .rename_i h hs hh;rw[G1];exact aCj call fl ops fr σ (h::hs) hc hh
  .rfl
 .split
  .rename_i hr;split
   .rename_i hs hh;rw[G1,T3];cases hd:eW P call fl ops (cN ops.toList []) 0 σ.length ops.toList fr (σ++hs)with
    |none=>rfl
    |some y=>
     obtain⟨tr,fr',σ'⟩:=y;simp only[List.reverse_nil,yAO,aJL];split
     .rename_i hf;exact nh
     .rfl
   .rfl
  .rfl
def T7(P:Program)(code:tD)(fl:Nat)(f:FuncId)(args:List PD)(σ:List aB):Option (PD×List aB):=
 match P.funcs[f]? with
 |some fn=>match fn.body with
  |some c=>B6 (args++List.replicate (fn.ntmps-args.length) (.aI [])) λfr=>(match code none c fl fr [] σ with
   |some r=>(match cI P fl fn r with
    |some (p,σ)=>v8 1 p λp=>(match r.ms with
     | []=>some (p,σ)
     |_=>v7 σ λσ=>some (p,σ))
    |none=>none)
   |none=>none)
  |none=>none
 |none=>none
theorem aJO(code:tD)(fl:Nat)(f:FuncId)(args:List PD)(σ:List aB):T7 P code fl f args σ=DW P code fl f args σ:=by
 unfold T7 DW;cases P.funcs[f]? with
 |none=>rfl
 |some fn=>
  simp only;cases fn.body with
  |none=>rfl
  |some c=>
   simp only[OA];cases code none c fl (args++List.replicate (fn.ntmps-args.length) (.aI [])) [] σ with
   |none=>rfl
   |some r=>
    simp only;cases cI P fl fn r with
    |none=>rfl
    |some x=>
     obtain⟨p,σ⟩:=x;simp only[OB];split<;>simp[G1]
def zV(P:Program)(E:aE)(code:tD):dA
 |fl,.inl f,args,σ=>match E f with
  |some g=>J2 (g fl args σ) (λp σ=>some (p,σ)) none
  |none=>T7 P code fl f args σ
 |fl,.inr id,args,σ=>J2 (F9 code fl id args σ) (λp σ=>some (p,σ)) none
theorem aCk(code:tD):zV P E code=qX P E code:=by
 have h:∀r:Option (PD×List aB),J2 r (λp σ=>some (p,σ)) none=r:=λr=>by
  rw[aJI];cases r with
  |none=>rfl
  |some x=>rfl
 funext fl tg args σ
 cases tg with
 |inl f=>
  simp only[zV,qX];cases E f with
  |none=>exact aJO code fl f args σ
  |some g=>exact h _
 |inr id=>exact h (F9 code fl id args σ)
def tL(P:Program)(E:aE)(n:Nat):tD:=
 Nat.rec (motive:=λ_=>tD) (λ_ _ _ _ _ _=>none) (λ_ self rd c fl fr ms σ=>
  match c with
  |.skip=>some ⟨.normal,fr,ms,σ⟩
  |.region _ ops false=>match J3 P (zV P E self) fl ops fr σ with
    |some (fr',σ')=>some ⟨.normal,fr',ms,σ'⟩
    |none=>none
  |.region _ ops true=>match J5 P (zV P E self) fl ops fr σ with
    |some (fr',σ')=>some ⟨.normal,fr',ms,σ'⟩
    |none=>none
  |.seq x y=>match self rd x fl fr ms σ with
    |some ⟨.normal,fr',ms',σ'⟩=>self rd y fl fr' ms' σ'
    |r=>r
  |.cond g x y=>match aZ fr g with
    |some (.bool true)=>self rd x fl fr ms σ
    |some (.bool false)=>self rd y fl fr ms σ
    |_=>none
  |.block id b=>match self rd b fl fr ms σ with
    |some ⟨.exit k,fr',ms',σ'⟩=>some ⟨if k=id then .normal else .exit k,fr',ms',σ'⟩
    |r=>r
  |.loop b=>match self rd b fl fr ms σ with
    |some ⟨.normal,fr',ms',σ'⟩=>self rd (.loop b) fl fr' ms' σ'
    |r=>r
  |.rangeFunc g ps assign body=>match aZ fr g with
    |some (.func gf cap)=>GA (zV P E self) rd gf cap ps.toList assign body fl fr ms σ
    |_=>none
  |.exit id=>some ⟨.exit id,fr,ms,σ⟩
  |.ret=>some ⟨.ret,fr,ms,σ⟩
  |_=>none) n
theorem aJP(n:Nat):tL P E (n+1)=λrd c fl fr ms σ=>
  match c with
  |.skip=>some ⟨.normal,fr,ms,σ⟩
  |.region _ ops false=>match J3 P (zV P E (tL P E n)) fl ops fr σ with
    |some (fr',σ')=>some ⟨.normal,fr',ms,σ'⟩
    |none=>none
  |.region _ ops true=>match J5 P (zV P E (tL P E n)) fl ops fr σ with
    |some (fr',σ')=>some ⟨.normal,fr',ms,σ'⟩
    |none=>none
  |.seq x y=>match tL P E n rd x fl fr ms σ with
    |some ⟨.normal,fr',ms',σ'⟩=>tL P E n rd y fl fr' ms' σ'
    |r=>r
  |.cond g x y=>match aZ fr g with
    |some (.bool true)=>tL P E n rd x fl fr ms σ
    |some (.bool false)=>tL P E n rd y fl fr ms σ
    |_=>none
  |.block id b=>match tL P E n rd b fl fr ms σ with
    |some ⟨.exit k,fr',ms',σ'⟩=>some ⟨if k=id then .normal else .exit k,fr',ms',σ'⟩
    |r=>r
  |.loop b=>match tL P E n rd b fl fr ms σ with
    |some ⟨.normal,fr',ms',σ'⟩=>tL P E n rd (.loop b) fl fr' ms' σ'
    |r=>r
  |.rangeFunc g ps assign body=>match aZ fr g with
    |some (.func gf cap)=>GA (zV P E (tL P E n)) rd gf cap ps.toList assign body fl fr ms σ
    |_=>none
  |.exit id=>some ⟨.exit id,fr,ms,σ⟩
  |.ret=>some ⟨.ret,fr,ms,σ⟩
  |_=>none:=rfl
theorem aCl:∀n,tL P E n=iO P E n
 |0=>rfl
 |n+1=>by
  funext rd c fl fr ms σ
  have h1:∀call fl ops fr σ,J3 P call fl ops fr σ=BM P call fl ops fr σ:=aJK;have h2:∀call fl ops fr σ,J5 P call fl ops fr σ=nS P call fl ops fr σ:=aJN;rw[aJP];unfold iO;rw[aCl n,aCk];simp only[h1,h2];cases c with
  |region id ops d=>cases d<;>rfl
  |_=>rfl
def N5(P:Program)(E:aE)(n:Nat):dA:=zV P E (tL P E n)
theorem aB8(n:Nat):N5 P E n=eN P E n:=by
 unfold N5 eN;rw[aCl,aCk]
end
end
def tK{α:Type}(f:α->α->Bool):List α->List α->Bool
 | [],[]=>true
 |x::xs,y::ys=>f x y&&tK f xs ys
 |_,_=>false
theorem TS{α:Type}{f:α->α->Bool}(hf:∀x y,f x y=true->x=y):∀xs ys:List α,tK f xs ys=true->xs=ys
 | [],[],_=>rfl
 |x::xs,y::ys,h=>by
  simp only[tK,yAr]at h;rw[hf x y h.1,TS hf xs ys h.2]
 | [],_::_,h=>by simp[tK]at h
 |_::_,[],h=>by simp[tK]at h
def TT:Tok->Tok->Bool
 |.any,.any=>true
 |.full,.full=>true
 |.nil,.nil=>true
 |.jF,.jF=>true
 |.jR,.jR=>true
 |.own a,.own b=>a==b
 |_,_=>false
theorem aJF(a b:Tok)(h:TT a b=true):a=b:=by
 cases a<;>cases b<;>simp[TT]at h<;>first|rfl|(rw[h])
def sK:Nat->PD->PD->Bool
 |0,_,_=>false
 |n+1,p,q=>match p,q with
  |.bool a,.bool b=>a==b
  |.int j a,.int k b=>(j==k)&&(a==b)
  |.str a,.str b=>a==b
  |.agg a,.agg b=>tK (sK n) a b
  |.slice s a t,.slice s' b t'=>(s==s')&&(TT t t'&&tK (sK n) a b)
  |.ptr i o,.ptr i' o'=>(i==i')&&(o==o')
  |.gR,.gR=>true
  |.func f a,.func g b=>(f==g)&&tK (sK n) a b
  |.jT f a,.jT g b=>(f==g)&&tK (sK n) a b
  |.iX,.iX=>true
  |.typed t a,.typed u b=>(t==u)&&tK (sK n) a b
  |.dJ i o m s,.dJ i' o' m' s'=>(i==i')&&((o==o')&&((m==m')&&(s==s')))
  |.aR i v o m s,.aR i' v' o' m' s'=>(i==i')&&((v==v')&&((o==o')&&((m==m')&&(s==s'))))
  |.dH i v o,.dH i' v' o'=>(i==i')&&((v==v')&&(o==o'))
  |.fK i,.fK i'=>i==i'
  |.iface t a,.iface u b=>(t==u)&&sK n a b
  |.aI a,.aI b=>tK (sK n) a b
  |.fT .nilIface,.fT .nilIface=>true
  |.fT (.map none),.fT (.map none)=>true
  |_,_=>false
theorem JZ:∀(n:Nat) (p q:PD),sK n p q=true->p=q
 |0,_,_,h=>by simp[sK]at h
 |n+1,p,q,h=>by
  have hl:∀a b:List PD,tK (sK n) a b=true->a=b:=TS (JZ n);unfold sK at h;split at h
  all_goals first
   |rfl
   |(cases h;done)
   |((try simp only[yAr,yCg]at h)
     first
      |(rw[h])
      |(obtain⟨rfl,rfl⟩:=h;rfl)
      |(rw[hl _ _ h])
      |(obtain⟨rfl,h2,h3⟩:=h;rw[hl _ _ h3,aJF _ _ h2])
      |(obtain⟨rfl,h2⟩:=h;rw[hl _ _ h2])
      |(obtain⟨rfl,rfl,rfl,rfl⟩:=h;rfl)
      |(obtain⟨rfl,rfl,rfl,rfl,rfl⟩:=h;rfl)
      |(obtain⟨rfl,rfl,rfl⟩:=h;rfl)
      |(obtain⟨rfl,h2⟩:=h;rw[JZ n _ _ h2]))
structure aVc where
 a:Gc
 s:Gb
 p:PD
 s':Gb
theorem aF.aJG{P:Program}{E:aE}(hE:aF P E)(hP:P.follows .mixedOrders=true){f:FuncId}{N:Nat}(h:(match N5 P E N 0 (.inl f) [] []with|some (.bool true,_)=>true|_=>false)=true) :
  aF P (E.add f (entry (vP Em.bool (some true)))):=by
 rw[aB8]at h;split at h
 .rename_i σ1 hr;exact hE.aHt hP hr
 .cases h
def rE:List (List PD×PD)->List PD->Option PD
 | [],_=>none
 |r::rs,args=>if tK (sK 40) (args.map PD.strip) r.1=true then some r.2 else rE rs args
theorem TR:∀ {rs:List (List PD×PD)} {args:Gc} {p:PD},rE rs args=some p->∃r∈rs,args.map PD.strip=r.1/\p=r.2
 | [],_,_,h=>Ap
 |r::rs,args,p,h=>by
  unfold rE at h;split at h
  .rename_i hc;simp only[yAb]at h;exact⟨r,Ai,TS (JZ 40) _ _ hc,h.symm⟩
  .obtain⟨r',hr,h'⟩:=TR h;exact⟨r',by simp[hr],h'⟩
def gX(P:Program)(E:aE)(N:Nat)(f:FuncId)(r:Gc×PD):Bool:=
 PD.fH r.1&&(match N5 P E N 0 (.inl f) r.1 []with
  |some (p1,σ1)=>(bF σ1 20 p1).bQ&&sK 40 (bF σ1 20 p1).strip r.2
  |none=>false)
theorem aF.N6{P:Program}{E:aE}(hE:aF P E)(hP:P.follows .mixedOrders=true){f:FuncId}{N:Nat}(rs:List (List PD×PD))(h:(rs.all (gX P E N f))=true) :
  aF P (E.add f (λ_ args σ=>match rE rs args with|some p=>some (p,σ)|none=>none)):=by
 refine hE.aB9 hP λargs p hg=>?_
 obtain⟨r,hr,ha,rfl⟩:=TR hg;have hx:=yAn.1 h r hr;simp only[gX,yAr]at hx;obtain⟨h1,h2⟩:=hx;split at h2
 .rename_i p1 σ1 hrun;simp only[yAr]at h2;rw[aB8]at hrun;exact⟨N,20,p1,σ1,by rw[ha];exact hrun,JZ 40 _ _ h2.2,h2.1,by rw[ha];exact h1⟩
 .cases h2
section
theorem aJ.unique{P:Program}{E:aE}{f:FuncId}{args:Gc}{p q:PD}(h:aJ P E f args p)(k:aJ P E f args q):p=q:=by
 obtain⟨p1,σ1,⟨N,hN⟩,rfl⟩:=h;obtain⟨q1,τ1,⟨M,hM⟩,rfl⟩:=k;have h1:=hN (max N M) (Nat.le_max_left _ _);have h2:=hM (max N M) (Nat.le_max_right _ _);rw[h1]at h2;simp only[yAb,yAc]at h2;rw[h2.1]
open Classical in
def GZ(P:Program)(E:aE)(f:FuncId):List PD->Option PD:=λargs=>
 if h:∃p,(PD.fH (args.map PD.strip)=true/\p.bQ=true)/\aJ P E f (args.map PD.strip) p then some (Classical.choose h)else none
theorem aJB{P:Program}{E:aE}{f:FuncId}{args:Gc}{p:PD}(h:aJ P E f (args.map PD.strip) p)(hi:PD.fH (args.map PD.strip)=true)(hp:p.bQ=true):GZ P E f args=some p:=by
 unfold GZ;have hx:∃p,(PD.fH (args.map PD.strip)=true/\p.bQ=true)/\aJ P E f (args.map PD.strip) p:=⟨p,⟨hi,hp⟩,h⟩;exact vl
theorem aJC{P:Program}{E:aE}{f:FuncId}{args:Gc}{p:PD}(h:aJ P E f (args.map PD.strip) p)(hi:PD.fH (args.map PD.strip)=true)(hp:p.bQ=true)(fl:Nat)(σ:List aB):entry (GZ P E f) fl args σ=some (p,σ):=by
 unfold entry;rw[aJB h hi hp]
theorem aF.aJD{P:Program}{E:aE}(hE:aF P E)(hP:P.follows .mixedOrders=true)(f:FuncId):aF P (E.add f (entry (GZ P E f))):=by
 refine hE.zE hP λargs p hg=>?_
 unfold GZ at hg;split at hg
 .rename_i hx;simp only[yAb]at hg;obtain⟨h1,h2⟩:=Classical.choose_spec hx;rw[hg]at h1 h2;obtain⟨p1,σ1,h3,h4⟩:=h2;exact⟨p1,σ1,h3,h4,h1.1,h1.2⟩
 .cases hg
theorem aF.aJE{P:Program}{E:aE}(hE:aF P E)(hP:P.follows .mixedOrders=true){f:FuncId}(rs:List (List PD×PD))(h:∀r∈rs,aJ P E f r.1 r.2/\PD.fH r.1=true/\r.2.bQ=true) :
  aF P (E.add f (λ_ args σ=>match rE rs args with|some p=>some (p,σ)|none=>none)):=by
 refine hE.zE hP λargs p hg=>?_
 obtain⟨r,hr,ha,rfl⟩:=TR hg;obtain⟨⟨p1,σ1,e1,e2⟩,h2,h3⟩:=h r hr;exact⟨p1,σ1,by rw[ha];exact e1,e2,by rw[ha];exact h2,h3⟩
end
theorem aF.pick{P:Program}{E E0:aE}(hE:aF P E)(h0:aF P E0){f:FuncId}{g}(h:E f=some g):aF P (E0.add f g):=by
 intro F fl f' g' args c vs p σ' hF hg hgo hs hX hv;unfold aE.add at hg;split at hg
 .rename_i e;subst e;simp only[yAb]at hg;subst hg;exact hE hF h hgo hs hX hv
 .exact h0 hF hg hgo hs hX hv
section
def Cx.held(c:Cx)(a:Addr):Prop:=∃id b,c.D id/\bA (c.ρ id)=some b/\a.block=b
def Cx.CZ(c:Cx):Cx:={ w:=c.w,ρ:=λ_=>undef,σ:=[],D:=λ_=>False,X:=λa=>c.av a\/c.held a }
theorem Y9{c:Cx}(a:Addr):c.CZ.av a↔(c.av a\/c.held a):=⟨λh=>h.1,λh=>⟨h,λ_ _ hd=>hd.elim⟩⟩
theorem Sr.CZ{c:Cx}(hs:Sr c):Sr c.CZ where
 box:=λ_ _ h=>h.elim
 own:=λ_ _ _ _ h=>h.elim
 row:=λ_ _ _ _ _ h=>h.elim
 map:=λ_ _ h=>h.elim
 mark:=λ_ h=>h.elim
 loop:=λ_ _ _ _ _ _ h=>h.elim
 inj:=λ_ _ _ h=>h.elim
 lt:=λ_ _ h=>h.elim
 bG:=λ_ h=>h.elim
 fresh:=λ_ h=>.inl (aAW hs h)
 jQ:=⟨λg ds e=>(hs.jQ.1 g ds e).free (λa v h1 h2=>⟨(Y9 a).2 (.inl h1),h2⟩) (by simpa [PD.bQ]using aAX e),λg hh=>⟨(hs.jQ.2 g hh).1,λ_ h=>h.elim⟩⟩
theorem aQH{c:Cx}(hs:Sr c){vs:Ge}{ps:Gc}(k:Nat)(hv:aV c vs ps)(hf:PD.fH (ps.map (bF c.σ k))=true):aV c.CZ vs (ps.map (bF c.σ k)):=by
 refine⟨by rw[yAe];exact hv.1,λi v q h1 h2=>?_⟩;rw[yAo]at h2;cases h0:ps[i]? with
 |none=>rw[h0]at h2;cases h2
 |some p=>
  rw[h0]at h2;simp only[yAC,yAb]at h2;subst h2;exact aCr (c2:=c.CZ) hs rfl (λa h=>(Y9 a).2 (.inl h)) (λid b hd hb j=>(Y9 _).2 (.inr ⟨id,b,hd,hb,rfl⟩)) k v p (hv.2 i v p h1 h0) (EE hf (yAw.2 ⟨p,yAE h0,rfl⟩))
def EJ(g:List PD->Option PD):Nat->List PD->List aB->Option (PD×List aB):=λ_ args σ=>
 if PD.fH (args.map (bF σ 20))=true then(match g (args.map (bF σ 20))with|some p=>some (p,σ)|none=>none)else none
theorem aF.aQI{P:Program}{E:aE}(hE:aF P E)(hP:P.follows .mixedOrders=true){f:FuncId}{g:List PD->Option PD}
  (h:∀args p,g args=some p->aJ P E f (args.map PD.strip) p/\p.flat=true):aF P (E.add f (EJ g)):=by
 intro F fl f' g' args c vs p σ' hF hg hgo hs hX hv;unfold aE.add at hg;split at hg
 .rename_i e;subst e;simp only[yAb]at hg;subst hg;unfold EJ at hgo;split at hgo
  .rename_i hid;split at hgo
   .rename_i q hga;simp only[yAb,yAc]at hgo;obtain⟨rfl,rfl⟩:=hgo;obtain⟨⟨p1,σ1,⟨N,hN⟩,e1⟩,e3⟩:=h _ q hga;have iN:aV c.CZ vs ((args.map (bF c.σ 20)).map PD.strip):=(aQH hs 20 hv hid).strip;have:=(BH hE hP hF N).fn (c:=c.CZ) (hN N (yAk _)) hs.CZ (λ_ _ h=>h.elim) iN;refine⟨this.1,λm=>yCE (this.2 m) λe w' he=>?_⟩;cases e with
    |returned v=>
     obtain⟨c1,rfl,rfl,hs1,nx,hvv,_⟩:=he;have hgr:c.w.grownBy c1.w none:=⟨nx.os,nx.tape,nx.output,nx.size,λk hk _=>nx.frame k hk (λ_ h=>h.elim)⟩;refine⟨c.at c1.w,rfl,rfl,hs.grow hgr,Nx.grow hs hgr,?_,λ_ h=>.inl h⟩;have hp:=hvv.strip;rw[e1]at hp;exact hp.flat e3
    |panicked ch=>exact he.elim
    |outgrown=>exact he.elim
   .cases hgo
  .cases hgo
 .exact gv
open Classical in
def CH(P:Program)(E:aE)(f:FuncId):List PD->Option PD:=λargs=>
 if h:∃p,p.flat=true/\aJ P E f (args.map PD.strip) p then some (Classical.choose h)else none
theorem aNr{P:Program}{E:aE}{f:FuncId}{args:Gc}{p:PD}(h:aJ P E f (args.map PD.strip) p)(hp:p.flat=true):CH P E f args=some p:=by
 unfold CH;have hx:∃p,p.flat=true/\aJ P E f (args.map PD.strip) p:=⟨p,hp,h⟩;exact vl
theorem aF.aMY{P:Program}{E:aE}(hE:aF P E)(hP:P.follows .mixedOrders=true)(f:FuncId):aF P (E.add f (EJ (CH P E f))):=by
 refine hE.aQI hP λargs p hg=>?_
 unfold CH at hg;split at hg
 .rename_i hx;simp only[yAb]at hg;obtain⟨h1,h2⟩:=Classical.choose_spec hx;rw[hg]at h1 h2;exact⟨h2,h1⟩
 .cases hg
end
section
theorem jL.unique{P:Program}{E:aE}{fl:Nat}{f:FuncId ⊕ Nat}{args:Gc}{σ:Gb}{r q:PD×Gb}(h:jL P E fl f args σ r.1 r.2)(k:jL P E fl f args σ q.1 q.2):r=q:=by
 obtain⟨N,hN⟩:=h;obtain⟨M,hM⟩:=k;have h1:=hN (max N M) (Nat.le_max_left _ _);rw[hM (max N M) (Nat.le_max_right _ _)]at h1;simp only[yAb,yAc]at h1;exact yCF h1.1.symm h1.2.symm
open Classical in
def CX(P:Program)(E:aE)(f:FuncId):Nat->List PD->List aB->Option (PD×List aB):=λfl args σ=>
 if h:∃r:PD×List aB,jL P E fl (.inl f) args σ r.1 r.2/\σ≠[]then some (Classical.choose h)else none
theorem aQm{P:Program}{E:aE}{f:FuncId}{fl:Nat}{args:Gc}{σ σ':Gb}{p:PD}(h:jL P E fl (.inl f) args σ p σ')(dQ:σ≠[]):CX P E f fl args σ=some (p,σ'):=by
 unfold CX;have hx:∃r:PD×List aB,jL P E fl (.inl f) args σ r.1 r.2/\σ≠[]:=⟨(p,σ'),h,dQ⟩;rw[dif_pos hx];exact yAK some ((Classical.choose_spec hx).1.unique (q:=(p,σ')) h)
theorem aF.aQn{P:Program}{E:aE}(hE:aF P E)(hP:P.follows .mixedOrders=true)(f:FuncId):aF P (E.add f (CX P E f)):=
 hE.add hP λfl args σ p σ' h=>by
  unfold CX at h;split at h
  .rename_i hx;simp only[yAb]at h;have h1:=(Classical.choose_spec hx).1;rw[h]at h1;exact h1
  .cases h
theorem aL.es{P:Program}{E:aE}{f:FuncId}{fl:Nat}{args:Gc}{σ:Gb}{R:PD->List aB->Prop}(h:aL P E fl (.inl f) args σ R)(dQ:σ≠[]):∃p σ',CX P E f fl args σ=some (p,σ')/\R p σ':=by
 obtain⟨p,σ',h1,h2⟩:=h.ex;exact⟨p,σ',aQm h1 dQ,h2⟩
theorem VR.resize{c:Cx}{v:Value}{k z:Nat}(h:VR c v (.slice k [] .full)):VR c v (.slice z [] .full):=by
 obtain⟨A,cap,fl,rfl,a1,a2,a3,a4,a5,a6,a7,a8⟩:=h.oF;have e:fl=[]:=yAf (by simpa using a4);subst e;exact .slice A _ cap z [] .full [] rfl a1 a2 (λx hx=>by simp at hx) Ai (λv hv=>by simp at hv) (λj v h=>Br) (λj v d h=>Br) a8
theorem aF.HU{P:Program}{E:aE}(hE:aF P E)(hP:P.follows .mixedOrders=true){f:FuncId}{g:Fw}
  (h:∀fl args σ p σ',g fl args σ=some (p,σ')->∀(c:Cx) (vs:List Value),c.σ=σ->aV c vs args->∃args1 p1,aV c vs args1/\jL P E fl (.inl f) args1 σ p1 σ'/\∀c' v,VR c' v p1->VR c' v p):aF P (E.add f g):=by
 intro F fl f' g' args c vs p σ' hF hg hgo hs hX hv;unfold aE.add at hg;split at hg
 .rename_i e;subst e;simp only[yAb]at hg;subst hg;obtain⟨args1,p1,rD,⟨N,hN⟩,hp⟩:=h fl args c.σ p σ' hgo c vs rfl hv;have:=(BH hE hP hF N).fn (hN N (yAk _)) hs hX rD;refine⟨this.1,λm=>yCE (this.2 m) λe w' he=>?_⟩;cases e with
  |returned v=>
   obtain⟨c1,e1,e2,hs1,nx,hvv,hfin⟩:=he;exact⟨c1,e1,e2,hs1,nx,hp _ _ hvv,hfin⟩
  |panicked ch=>exact he.elim
  |outgrown=>exact he.elim
 .exact gv
end
section
open Go
def QC(ops:Array Oper):Bool:=s6 ops.toList [] λms=>
 (List.range ops.size).all λk=>!fA iP ops.toList k||(List.range ops.size).all λi=>!fA fB ops.toList i||!loose ms i k
def QD(f:Nat)(ops:Array Oper):Bool:=s6 ops.toList [] λms=>
 (List.range ops.size).any λk=>aFg (YX f) ops.toList k&&!kI ops.toList ms k&&(List.range k).all λj=>!fA eM ops.toList j&&!fA iP ops.toList j
section
variable{P:Program}{E:aE}{fl:Nat}{ops:Gg}
theorem aFh{n f:Nat}{g:Fw}(hE:E f=some g)(hg:∀fl args σ,0<fl->g fl args σ=none){ms:List Nat}(hsh:∀o∈ops.toList,(iF o.op||fB o.op||dF o.op||qB o.op||eG o.op)=true) :
  ∀(d i k:Nat) (l:List Oper) (fr:List PD) (σ:List aB) (o:Oper),ops.toList.drop i=l->σ≠[]->l[d]?=some o->YX f o=true->kI ops.toList ms (i+d)=false->(∀j o',j<d->l[j]?=some o'->eM o'.op=false/\iP o'.op=false) ->
   eW P (eN P E n) fl ops ms i k l fr σ=none
 |0,i,k,l,fr,σ,o,hl,dQ,ho,hc,hn,_=>by
  cases l with
  |nil=>simp at ho
  |cons o' l=>
   simp only[yBv,yAb]at ho;subst ho;rw[yBo]at hn;simp only[YX,yAr]at hc;obtain⟨hgd,hc⟩:=hc;obtain⟨dst,op,ty,pos,edges,guard⟩:=o';simp only at hc hgd;split at hc
   .rename_i g' args ts hop;simp only[yCk]at hc;subst hc;have hgn:guard=none:=by cases guard<;>simp_all
    subst hgn;have hp:cT P (eN P E n) (max fl σ.length) fr σ (.call { callee:=.value (.func g'),args:=args,argTypes:=ts })=none:=by
     have hpos:0<max fl σ.length:=by
      have:0<σ.length:=yDe.2 dQ;omega
     unfold cT;cases ha:kL fr args.toList with
     |none=>
      have:gP fr (.call { callee:=.value (.func g'),args:=args,argTypes:=ts })=none:=by simp[gP,aZ,ha]
      rw[this];simp[pop,eK,dE]
     |some ps=>
      have:gP fr (.call { callee:=.value (.func g'),args:=args,argTypes:=ts })=some (.inl g',ps++[]):=by simp[gP,aZ,ha]
      rw[this];simp only[eN,qX,hE,hg _ _ _ hpos]
    simp only[eW,Region.wanted,yAL,hn];unfold l6;simp only[iF,dF,eM,yAx,yAN,yCm,yCn,yAL,hp]
   .cases hc
 |d+1,i,k,l,fr,σ,o,hl,dQ,ho,hc,hn,hm=>by
  cases l with
  |nil=>simp at ho
  |cons o' l=>
   have hmem:o'∈ops.toList:=by
    have:o'∈ops.toList.drop i:=by rw[hl];simp
    exact yBi this
   have hs1:=hsh o' hmem;obtain⟨hm0,hs2⟩:=hm 0 o' Ah Ai;have hl':ops.toList.drop (i+1)=l:=by rw[<-yBD,hl];rfl
   have hrec:=λk fr=>aFh (n:=n) hE hg hsh d (i+1) k l fr σ o hl' dQ Cu hc (by rw[show i+1+d=i+(d+1) by omega];exact hn) (λj o'' hj h=>hm (j+1) o'' Ah Bh)
   simp only[eW];split
   .split
    .rename_i p σ1 hp;obtain rfl:=aBp hs1 (by unfold eG;rw[hs2,hm0];rfl) hp;rw[hrec]
    .rfl
   .rw[hrec]
theorem aFi{n f:Nat}{g:Fw}(hE:E f=some g)(hg:∀fl args σ,0<fl->g fl args σ=none){fr:Gc}{σ:Gb}(dQ:σ≠[]){x:Gc×Gb}(ρ:List (Nat×Nat))(B:List Nat){L:List (Option Nat)}(hs:(xV ops&&FI ops.toList&&QC ops&&QD f ops)=true)
  (hρ:(eP.of ρ).ok fr) (hL:QE ops.toList (eP.of ρ)=L) (hB:rK B L) (h:eF P (wO E B) fl ops ops.toList fr σ=some x):nS P (eN P E n) fl ops fr σ=some x:=by
 simp only[yAr,xV]at hs;obtain⟨⟨⟨h1,h2⟩,h3⟩,h4⟩:=hs;rw[rY]at h1;have hr:=DU h1;obtain⟨tr,e1,e2⟩:=YY (n:=n) ops.toList 0 σ.length fr σ x (λo ho=>by
  obtain⟨i,hi⟩:=yDQ ho;exact hr.shape i o Dv) h2 h
 have hft:=YZ _ _ _ _ _ _ _ _ _ e1 hρ;unfold nS;cases hd:oV P (eN P E n) fl ops fr σ with
 |some y=>
  exfalso
  unfold oV at hd;simp only[h1,yAL,Y0 h2,yAl]at hd;rw[QD,rY]at h4;simp only[List.any_eq_true,yAX,yAr,yBI,yAn]at h4;obtain⟨k,hk,⟨a1,a2⟩,a3⟩:=h4;have hno:eW P (eN P E n) fl ops (cN ops.toList []) 0 σ.length ops.toList fr σ=none:=by
   have hkl:k<ops.toList.length:=Fh;refine aFh hE hg (λo ho=>?_) k 0 _ _ _ _ ops.toList[k] Ai dQ (yAh hkl) ?_ (by simpa using a2) ?_
   .obtain⟨i,hi⟩:=yDQ ho;exact hr.shape i o Dv
   .unfold aFg at a1;rw[yAh hkl]at a1;exact a1
   .intro j o' hj ho';obtain⟨this,that⟩:=a3 j hj;unfold fA at this that;rw[ho']at this that;exact⟨this,that⟩
  rw[hno]at hd;cases hd
 |none=>
  simp only[h1,yAL,Y0 h2,yAl,e1];rw[yAJ];refine⟨?_,?_⟩
  .simp only[pE,yAn,yAX];intro k hk;rw[QC,rY]at h3;simp only[yAn,yAX,yBR,yBI]at h3;have LN:=h3 k Fh;simp only[yBR,yBI,yAn,yAX];rcases LN with LN|LN
   .exact .inl LN
   .refine .inr λi hi=>?_
    rcases LN i Dv with h|h
    .exact .inl (.inl h)
    .exact .inl (.inr h)
  .intro k i id ok oi hk hi hm hl hlo hid;obtain⟨q1,q2⟩:=e2 k ok hk hm;refine⟨q1,q2 id ?_⟩;have hkl:=(yA.1 hk).1;have hil:=(yA.1 hi).1;have hmem:(BZ (eP.of ρ) ops.toList).getD i none∈L:=by
    rw[<-hL,QE,rY];refine yDd.2 ⟨k,yAX.2 hkl,?_⟩;have a1:fA eM ops.toList k=true:=by
     unfold fA;rw[hk];exact hm
    have a2:fA fB ops.toList i=true:=by
     unfold fA;rw[hi];exact hl
    rw[yAJ a1];exact yDK.2 ⟨i,yAX.2 hil,by rw[a2,hlo];rfl⟩
   obtain⟨a,ha,haB⟩:=aFj hB _ hmem;rw[hft i id a hid ha];exact haB
theorem Wp.CL{rd:Option Nat}{ms:List Nat}{Q:PO->Prop}{id f:Nat}{g:Fw}{fr:Gc}{σ:Gb}(hE:E f=some g)(hg:∀fl args σ,0<fl->g fl args σ=none)(dQ:σ≠[])(ρ:List (Nat×Nat))(B:List Nat)(L:List (Option Nat))
  (hs:(xV ops&&FI ops.toList&&QC ops&&QD f ops)=true) (hρ:eP.at fr ρ) (hL:QE ops.toList (eP.of ρ)=L) (hB:rK B L) (h:SQ P (wO E B) fl ops ops.toList fr σ (λfr' σ'=>Q ⟨.normal,fr',ms,σ'⟩)) :
  Wp P E rd (.region id ops true) fl fr ms σ Q:=by
 obtain⟨fr',σ',h1,h2⟩:=h.ex;exact⟨_,.R9 (N:=0) (λn _=>aFi hE hg dQ ρ B hs (eP.aB5 ρ hρ) hL hB h1),h2⟩
def eP.Y1(fr:List PD):List (Nat×Nat)->Prop
 | []=>True
 |x::l=>(∃p,lk fr x.1=some p/\fU p=some x.2)/\eP.Y1 fr l
theorem eP.aFk{fr:Gc}:∀(l:List (Nat×Nat)),eP.Y1 fr l->(eP.of l).ok fr
 | [],_=>λ_ _ _ h=>Ap
 |x::l,⟨⟨p,h1,h3⟩,h2⟩=>λt id id' h h'=>by
  unfold eP.of at h
  by_cases e:x.1=t
  .rw[yAJ e]at h;simp only[yAb]at h;rw[M0,e]at h1;rw[yAA,h1]at h';simp only[yDk,h3,yAb]at h';rw[<-h',h]
  .rw[yAI e]at h;exact eP.aFk l h2 t id id' h h'
theorem Wp.aEe{rd:Option Nat}{ms:List Nat}{Q:PO->Prop}{id f:Nat}{g:Fw}{fr:Gc}{σ:Gb}(hE:E f=some g)(hg:∀fl args σ,0<fl->g fl args σ=none)(dQ:σ≠[])(ρ:List (Nat×Nat))(B:List Nat)(L:List (Option Nat))
  (hs:(xV ops&&FI ops.toList&&QC ops&&QD f ops)=true) (hρ:eP.Y1 fr ρ) (hL:QE ops.toList (eP.of ρ)=L) (hB:rK B L) (h:SQ P (wO E B) fl ops ops.toList fr σ (λfr' σ'=>Q ⟨.normal,fr',ms,σ'⟩)) :
  Wp P E rd (.region id ops true) fl fr ms σ Q:=by
 obtain⟨fr',σ',h1,h2⟩:=h.ex;exact⟨_,.R9 (N:=0) (λn _=>aFi hE hg dQ ρ B hs (eP.aFk ρ hρ) hL hB h1),h2⟩
end
def eT(P:Program)(E:aE)(f:FuncId):Nat->List PD->List aB->Option (PD×List aB):=λfl args σ=>if fl=0 then CX P E f 0 args σ else none
theorem ES{P:Program}{E:aE}{f:FuncId}:∀fl args σ,0<fl->eT P E f fl args σ=none:=λfl args σ h=>by
 unfold eT;rw[yAI Ah]
theorem aL.e0{P:Program}{E:aE}{f:FuncId}{args:Gc}{σ:Gb}{R:PD->List aB->Prop}(h:aL P E 0 (.inl f) args σ R)(dQ:σ≠[]):∃p σ',eT P E f 0 args σ=some (p,σ')/\R p σ':=by
 obtain⟨p,σ',h1,h2⟩:=h.es dQ;exact⟨p,σ',by unfold eT;rw[yAJ rfl];exact h1,h2⟩
theorem aF.wF{P:Program}{E:aE}(hE:aF P E)(hP:P.follows .mixedOrders=true)(f:FuncId):aF P (E.add f (eT P E f)):=by
 intro F fl f' g' args c vs p σ' hF hg hgo hs hX hv;unfold aE.add at hg;split at hg
 .rename_i e;subst e;simp only[yAb]at hg;subst hg;unfold eT at hgo;split at hgo
  .rename_i e;subst e;exact(hE.aQn hP f') hF (show E.add f' (CX P E f') f'=_ from yAJ rfl) hgo hs hX hv
  .cases hgo
 .exact gv
theorem aH.e0{P:Program}{E E0:aE}(hU:aH E){f:FuncId}:aH (E.add f (eT P E0 f)):=hU.other λargs p h=>by
 unfold eT CX at h;rw[yAJ rfl,dif_neg (λhx=>hx.choose_spec.2 rfl)]at h;cases h
end
section
open Classical in
def CO(E:aE):dA:=λfl tg args σ=>match fI E fl tg args σ with
 |some (p,σ')=>if fI E (max fl σ.length) tg args σ=some (p,σ')/\σ'=σ++σ'.drop σ.length then some (p,σ')else none
 |none=>none
theorem KO{E:aE}{fl:Nat}{f:FuncId}{args:Gc}{σ τ:Gb}{p:PD}{g}(hE:E f=some g)(h:∀fl,g fl args σ=some (p,σ++τ)):CO E fl (.inl f) args σ=some (p,σ++τ):=by
 have e:∀fl,fI E fl (.inl f) args σ=some (p,σ++τ):=λfl=>by simp only[fI,hE,h]
 unfold CO;simp only[e];rw[yAJ ⟨e _,Ai⟩]
theorem aFf{E:aE}{fl:Nat}{tg:FuncId ⊕ Nat}{args:Gc}{σ:Gb}{x:PD×Gb}(h:CO E fl tg args σ=some x):fI E fl tg args σ=some x/\fI E (max fl σ.length) tg args σ=some x/\x.2=σ++x.2.drop σ.length:=by
 unfold CO at h;split at h
 .rename_i p σ' e;split at h
  .rename_i hc;simp only[yAb]at h;subst h;exact⟨e,hc.1,hc.2⟩
  .cases h
 .cases h
section
variable{P:Program}{E:aE}{fl:Nat}{fr:Gc}{σ:Gb}
theorem aQo{op:Op}{x:PD×Gb}(h:cT P (CO E) fl fr σ op=some x):cT P (fI E) fl fr σ op=some x:=by
 unfold cT at h ⊢;split at h
 .rename_i tg args hp;exact(aFf h).1
 .exact h
theorem QB{ops:Gg}:∀(l:List Oper) (i:Nat) (fr:List PD) (σ:List aB) (x:Gc×List aB),ops.toList.drop i=l->F2 ops=true ->
  eF P (CO E) fl ops l fr σ=some x->mN P (fI E) fl ops (flags ops i l) fr σ=some x
 | [],_,_,_,_,_,_,h=>h
 |o::l,i,fr,σ,x,hd,hm,h=>by
  have ho:ops.toList[i]?=some o:=by
   exact xx
  have hd':ops.toList.drop (i+1)=l:=Ff;have hi:i<ops.size:=by
   have:=(yA.1 ho).1;exact cr
  have hown:I2 o.op=false\/xG ops i=true:=by
   exact lz
  simp only[eF]at h;simp only[flags,mN];split at h
  .rename_i hw;rw[yAJ hw];split at h
   .rename_i p σ1 hp;cases hf:(!eM o.op||xG ops i)with
    |true=>
     simp only[aQo hp];exact QB l (i+1) _ _ _ hd' hm h
    |false=>
     simp only[yDX,Bool.not_eq_false']at hf;obtain⟨iK,kY⟩:=hf;rw[kY]at hown;have hop:I2 o.op=false:=by simpa using hown
     have key:cT P (fI E) (max fl σ.length) fr σ o.op=some (p,σ1)/\σ1=σ++σ1.drop σ.length:=by
      unfold cT at hp ⊢;split at hp
      .rename_i tg args hpc;obtain⟨_,k2,k3⟩:=aFf hp;exact⟨k2,k3⟩
      .rename_i hpc
       exfalso
       cases hq:o.op with
       |box t x=>rw[hq]at hop;cases hop
       |call c=>
        obtain⟨callee,args,ts⟩:=c;cases callee with
        |builtin b=>rw[hq]at hop iK;cases b<;>first|(cases hop;done)|(cases iK;done)
        |value f=>rw[hq]at hp;simp[pop,eK,dE]at hp
        |invoke r m=>rw[hq]at iK;cases iK
       |_=>rw[hq]at iK;cases iK
     simp only[key.1,<-key.2];exact QB l (i+1) _ _ _ hd' hm h
   .cases h
  .rename_i hw;rw[yAI hw];exact QB l (i+1) _ _ _ hd' hm h
theorem Wp.XL{rd:Option Nat}{ms:List Nat}{Q:PO->Prop}{ops:Gg}{id:Nat}(hs:(uJ ops&&F2 ops)=true)(h:SQ P (CO E) fl ops ops.toList fr σ (λfr' σ'=>Q ⟨.normal,fr',ms,σ'⟩)):Wp P E rd (.region id ops true) fl fr ms σ Q:=by
 simp only[yAr,MQ]at hs;obtain⟨fr',σ',h1,h2⟩:=h.ex;exact .draw hs.1 (QB ops.toList 0 fr σ _ rfl hs.2 h1) h2
end
end
section
open Go.RowKit
set_option linter.unusedSectionVars false
def Tok.sh(n:Nat):Tok->Tok
 |.own id=>.own (id+n)
 |t=>t
mutual
def PD.sh(n:Nat):PD->PD
 |.bool b=>.bool b
 |.int k z=>.int k z
 |.str s=>.str s
 |.agg cs=>.agg (PD.yP n cs)
 |.slice sz xs t=>.slice sz (PD.yP n xs) (t.sh n)
 |.ptr id off=>.ptr (id+n) off
 |.eO cs off=>.eO (PD.yP n cs) off
 |.gR=>.gR
 |.func f cap=>.func f (PD.yP n cap)
 |.jT f xs=>.jT f (PD.yP n xs)
 |.yield id=>.yield (id+n)
 |.iX=>.iX
 |.fT v=>.fT v
 |.typed t cs=>.typed t (PD.yP n cs)
 |.dJ id off m sz=>.dJ (id+n) off m sz
 |.aR id ver off m sz=>.aR (id+n) ver off m sz
 |.dH id ver off=>.dH (id+n) ver off
 |.fK id=>.fK (id+n)
 |.iface t p=>.iface t (PD.sh n p)
 |.aI vs=>.aI (PD.yP n vs)
def PD.yP(n:Nat):List PD->Gc
 | []=>[]
 |x::xs=>PD.sh n x::PD.yP n xs
end
def aB.sh(n:Nat):aB->aB
 |.none=>.none
 |.box p=>.box (p.sh n)
 |.own e s m=>.own e s m
 |.row e s v cs=>.row e s v (PD.yP n cs)
 |.map es=>.map (es.map λx=>(x.1.sh n,x.2.sh n))
 |.mark=>.mark
 |.loop st fr ps asg bd=>.loop st (PD.yP n fr) ps asg bd
structure Shv (n:Nat) (c1 c2:Cx):Prop where
 cell:∀a v,c1.av a->c1.w.cell? a=some v->c2.av a/\c2.w.cell? a=some v
 bG:∀id,c1.D id->c2.D (id+n)
 rho:∀id,c1.D id->c2.ρ (id+n)=c1.ρ id
 obj:∀id,c2.σ[id+n]?=(c1.σ[id]?).map (aB.sh n)
section
variable{c c1:Cx}
variable(hs:Sr c)(hs1:Sr c1)(nx:Nx 0 c.bare c1)
include hs nx
include hs1
end
end
def AK(g1 g2:Nat->List PD->List aB->Option (PD×List aB)):Nat->List PD->List aB->Option (PD×List aB):=λfl args σ=>match g1 fl args σ with
 |some x=>some x
 |none=>g2 fl args σ
theorem aF.CE{P:Program}{E:aE}{f:FuncId}{g1 g2}(h1:aF P (E.add f g1))(h2:aF P (E.add f g2)):aF P (E.add f (AK g1 g2)):=by
 intro F fl f' g' args c vs p σ' hF hg hgo hs hX hv
 by_cases e:f'=f
 .have e0:∀g,(E.add f g) f'=some g:=λg=>by unfold aE.add;rw[yAJ e]
  rw[e0]at hg;simp only[yAb]at hg;subst hg;unfold AK at hgo;split at hgo
  .rename_i x hx;simp only[yAb]at hgo;subst hgo;exact h1 hF (e0 g1) hx hs hX hv
  .exact h2 hF (e0 g2) hgo hs hX hv
 .have e0:∀g g',(E.add f g) f'=(E.add f g') f':=λg g'=>by unfold aE.add;rw[yAI e,yAI e]
  rw[e0 _ g1]at hg;exact h1 hF hg hgo hs hX hv
theorem aH.tail{E:aE}(hU:aH E){f:FuncId}{g}(h:∀args p,g 0 args []=some (p,[])->∀fl σ,g fl args σ=some (p,σ)):aH (E.add f g):=by
 intro f' g' args p hg ha fl σ;unfold aE.add at hg;split at hg
 .simp only[yAb]at hg;subst hg;exact h args p ha fl σ
 .exact hU f' g' args p hg ha fl σ
def wC(g:Nat->List PD->List aB->Option (PD×List aB)):Prop:=∀fl args σ p σ',g fl args σ=some (p,σ')->σ'≠[]
theorem wC.or{g1 g2}(h1:wC g1)(h2:wC g2):wC (AK g1 g2):=λfl args σ p σ' h=>by
 unfold AK at h;split at h
 .rename_i x hx;simp only[yAb]at h;subst h;exact h1 _ _ _ _ _ hx
 .exact h2 _ _ _ _ _ h
theorem aH.aCO{E:aE}(hU:aH E){f:FuncId}{g}(h:wC g):aH (E.add f g):=hU.tail λ_ _ ha=>absurd rfl (h _ _ _ _ _ ha)
section
open Go Go.RowKit
theorem aCF{P:Program}{w:World}{nm:String}{d:DataW Unit}:∀ {laid:List (String×DataW Unit)} {ps:List MemPlace},DataW.LaidVars P w laid ps->(nm,d)∈laid ->
  ∃g t cs fuel p,P.globalNamed nm=some g/\(P.globals[g]?).map (·.type)=some t/\w.var? P nm=some cs/\DataW.trod (λ_=>()) P w 0 (λ_=>true) false fuel t cs.toList=some (d,p)
 | [],_,_,hm=>by cases hm
 |(n,d')::r,ps,h,hm=>by
  obtain⟨g,t,cs,fuel,p,q,h1,h2,h3,h4,h5,_⟩:=h;rcases yBh.1 hm with e|hm
  .simp only[yAc]at e;obtain⟨rfl,rfl⟩:=e;exact⟨g,t,cs,fuel,p,h1,h2,h3,h4⟩
  .exact aCF h5 hm
theorem RG{P:Program}{w:World}{laid:List (String×DataW Unit)}{ps:List MemPlace}{nm:String}{k:IntKind}{xs:List Int}{g n:Nat}{t e:TypeId}(h:DataW.LaidVars P w laid ps)
  (hm:(nm,(.agg (xs.map λx=>.lit (.int k x)):DataW Unit))∈laid)
  (hg:P.globalNamed nm=some g) (ht:(P.globals[g]?).map (·.type)=some t) (hu:P.underlying t=some (.array n e)) (he:P.underlying e=some (.int k)) (hc:P.cellsOf e=1) (hct:P.cellsOf t=n) :
  ∃T fz,w.heap[g]?=some (.cells ((xs.map (Value.int k)).toArray) T fz):=by
 obtain⟨g1,t1,BW,f1,p1,oG,NH,rD,sE⟩:=aCF h hm;obtain rfl:=yAU (hg.symm.trans oG);obtain rfl:=yAU (ht.symm.trans NH);obtain⟨ys,m1,rfl,hx1,hlen,hn,hel⟩:=DataW.trod_array hu sE;simp only[yAc,DataW.agg.injEq]at hx1;have hxl:xs.length=n:=by
  have:=yAK List.length hx1.1;simp only[yAe]at this;omega
 have key:∀(j:Nat) (x:Int),xs[j]?=some x->BW[j]?=some (Value.int k x):=by
  intro j x hj;have hjl:j<n:=by rw[<-hxl];exact(yA.1 hj).1
  have hy:ys[j]?=some ys[j]:=yAh Ah;have h1:=hel j hjl;rw[hy,hc,yDc]at h1;obtain⟨v,e1,e2,_⟩:=DataW.trod_int he h1;have h2:=yAK (λl=>l[j]?) hx1.1;simp only[yAo,hj,hy,yAC,yAb,e2,DataW.lit.injEq,Lit.int.injEq]at h2;have h3:=yAK (λl=>l[0]?) e1;simp only[yAv,yBn,yBo,Nat.zero_lt_one,yAL,yBv]at h3;rw[<-yCG,h3,h2.2]
 have hcs:BW=(xs.map (Value.int k)).toArray:=by
  apply yCi;apply yCo;intro j;rw[yAo];cases hx:xs[j]? with
  |some x=>rw[yCG,key j x hx];rfl
  |none=>
   have hj:xs.length<=j:=yEe.1 hx;rw[yBB (by rw[hlen,hct];omega)];rfl
 have hv:=rD;unfold World.var? at hv;rw[hg,yCI]at hv;split at hv
 .rename_i cs T fz hh;simp only[yAb]at hv;exact⟨T,fz,by rw[hh,hv,hcs]⟩
 .cases hv
theorem RH{w:World}{g:Nat}{k:IntKind}{xs:List Int}{T:TypeId}{fz:Nat×Nat}(h:w.heap[g]?=some (.cells ((xs.map (Value.int k)).toArray) T fz)):VR (.start w) (.pointer (some ⟨g,0,none⟩)) (.eO (xs.map (PD.int k)) 0):=by
 have hadd:∀j,(⟨g,0,none⟩:Addr).add j=⟨g,j,none⟩:=λj=>Av
 have:=VR.eO (c:=.start w) ⟨g,0,none⟩ (xs.map (Value.int k)) (xs.map (PD.int k)) 0 Ai (by simp[Value.oneCell']) (λj v hj=>by
  rw[hadd];refine⟨?_,aAH _⟩;show w.cell? ⟨g,j,none⟩=some v
  unfold World.cell?;simp only[h];simpa using hj) (λj v d h1 h2=>by
  rw[yAo]at h1 h2;cases hx:xs[j]? with
  |none=>rw[hx]at h1;simp at h1
  |some x=>
   rw[hx]at h1 h2;simp only[yAC,yAb]at h1 h2;subst h1 h2;exact .int k x)
 rw[hadd]at this;exact this
theorem aHa{P:Program}{w:World}{g:Nat}{t:TypeId}{k:IntKind}{zero:Gf}(h:w.ShapedOpen P)(hg:g<P.globals.size)
  (h0:((begin P (λ_ _=>0) default).world.heap[g]?).bind Obj.row?=some (zero,t)) (hz:zero.size=1) (hb:P.buildable t=true) (hty:P.cellTypes P.depth t=some [t]) (hu:P.underlying t=some (.int k)) :
  ∃m,∃T fz,w.heap[g]?=some (.cells #[.int k m] T fz):=by
 obtain⟨cs,h1,h2,h3⟩:=h.1 g zero t hg h0;have h4:=h3 hb;obtain⟨ts,e1,_,h5⟩:=h4;obtain rfl:=yAU (hty.symm.trans e1);have hsz:cs.size=1:=Ah;obtain⟨u,e2,h6⟩:=h5 0 cs[0] (yCy Ah);simp only[yCX,Nat.zero_mod,yBv,yAb]at e2;subst e2;unfold Cell.ok at h6;rw[hu]at h6;have hv:∃m,cs[0]=.int k m:=by
  cases hc:cs[0]with
  |int k' m=>
   rw[hc]at h6;simp only at h6;exact⟨m,by rw[h6.1]⟩
  |_=>
   rw[hc]at h6;simp at h6
 obtain⟨m,hm⟩:=hv;refine⟨m,t,(0,0),?_⟩;rw[h1];have:cs=#[.int k m]:=by
  apply Array.ext
  .simpa using hsz
  .intro i hi1 hi2;have:i=0:=Ah;subst this;simpa using hm
 rw[this]
end
section
open Go Go.RowKit
theorem aG1{H:Type}{enc:TypeId×Value->H}{a:Assume}{C:Checked}{os:Os}{f:FuncId}{fn:Func}{s:ChangeSpec}{conds:List PathCond}{apart fresh handsOn again:Bool}{X:World->Array Value->Prop}
  (hX:∀(w w':World) (args:Array Value),w.heap=w'.heap->X w args->X w' args)
  (own:ownKnob C.prog.godebug=none) (started:os.Started) (noInit:C.prog.inits.idxOf? f=none) (hfn:C.prog.funcs[f]?=some fn)
  (witness:∃(w:World) (tape:Tape) (i:Input),w.os=os/\(w.forCall tape i).Shaped C.prog/\i.vars=[]/\Input.okWide C.prog (w.forCall tape i) .any w.heap.size f i /\
   ((s.pre enc C.prog fn conds apart (w.forCall tape i).memory i.args/\X (w.forCall tape i).memory i.args)/\sizedMet enc C.prog fn (OpenSpec.ofChange s) apart (w.forCall tape i).memory i.args)/\a.holds C.prog (lone (Frame.enter C.prog f i.args .normal) [] (w.forCall tape i)))
  (contract:∀(W:World) (base:Nat) (args:Array Value) (ds gs:List (DataW H)) (before:List MemPlace),W.ShapedOpen C.prog ->
   (∀(j:Nat) t v,fn.params[j]?=some t->args[j]?=some v->Value.okWide C.prog W .any base t v) ->
   DataW.Whole enc C.prog fn.params.toList s.vars apart W args.toList ds gs before ->
   conds.all (PathCond.test C.prog ⟨fn.params.toList,ds,s.plain.varTypes C.prog,gs⟩)=true ->
   (DataW.weightsEach C.prog (fn.params.toList++s.plain.varTypes C.prog) (ds++gs)).all (·<=reachBytes)=true->X W args ->
   a.holds C.prog (lone (Frame.enter C.prog f args .normal) [] W) ->
   Calls C.prog f args W λe W'=>∃v,e=.returned v/\s.post enc C.prog fn apart fresh handsOn again W args v W') :
  ReturnsInHanded a C os f .any (λw args=>(s.pre enc C.prog fn conds apart w args/\X w args)/\sizedMet enc C.prog fn (OpenSpec.ofChange s) apart w args) (s.post enc C.prog fn apart fresh handsOn again):=by
 refine returnsInHanded_of_calls own started noInit witness ?_;intro w tape i _ hsh _ hok hpre hholds;obtain⟨_,_,_,fn',aJW,_,_,_,_,hval⟩:=hok;obtain rfl:fn'=fn:=yAU (aJW.symm.trans hfn);obtain⟨⟨⟨ds,gs,before,hw,hc⟩,hx⟩,hz⟩:=hpre;have hw':=DataW.Whole.of_heap (w':=w.forCall tape i) (by rfl) hw;refine(contract (w.forCall tape i) w.heap.size i.args ds gs before hsh hval hw' hc (hz.weights hw) (hX _ _ _ (by rfl) hx) hholds).mono λe W' ⟨v,he,hp⟩=>?_
 subst he;exact ChangeSpec.post_blind hp
end
section
open Go.RowKit
section
variable{H:Type}{enc:TypeId×Value->H}{P:Program}{w:World}{base:Nat}{sp:Nat->Bool}{held:Bool}
end
end
section
open Go
section
variable{P:Program}{call:dA}{fl:Nat}{ops:Gg}
end
section
variable{P:Program}{E:aE}{fl:Nat}{fr:Gc}{σ:Gb}
end
def K2:Op->Option Nat
 |.load _ (.tmp t)=>some t
 |.store _ (.tmp t) _=>some t
 |.convert _ _ (.tmp t)=>some t
 |_=>none
def HY(ops:List Oper)(i t:Nat):Bool:=(ops.drop i).all λo=>decide (o.dst≠some t)
def X2(ops:List Oper):List (Nat×Nat):=s6 ops [] λms=>
 (List.range ops.length).flatMap λk=>if fA iP ops k then(List.range ops.length).filterMap λi=>if fA fB ops i&&loose ms i k then some (i,k)else none else []
def aEB(ops:List Oper)(L:List (Nat×Nat))(x:Nat×Nat):Bool:=match ops[x.1]?,ops[x.2]? with
 |some o,some o'=>match K2 o.op,K2 o'.op with
  |some a,some b=>L.any (λy=>y.1==a&&y.2==b)&&HY ops x.1 a&&HY ops x.2 b
  |_,_=>false
 |_,_=>false
def aEC(ops:Array Oper)(L:List (Nat×Nat)):Bool:=(X2 ops.toList).all (aEB ops.toList L)
def K3(fr:List PD):List (Nat×Nat)->Prop
 | []=>True
 |x::l=>(∀a b,fU (fr.getD x.1 (.aI []))=some a->fU (fr.getD x.2 (.aI []))=some b->a≠b)/\K3 fr l
theorem aED{fr:Gc}:∀ {l:List (Nat×Nat)},K3 fr l->∀y∈l,∀a b,fU (fr.getD y.1 (.aI []))=some a->fU (fr.getD y.2 (.aI []))=some b->a≠b
 | [],_,_,h=>Ap
 |x::l,h,y,hm=>by
  rcases yBh.1 hm with rfl|hm
  .exact h.1
  .exact aED h.2 y hm
section
variable{P:Program}{call:dA}{fl:Nat}{ops:Gg}
theorem X3{fr:Gc}{dst:Option Nat}{p x:PD}{t:Nat}(h:dst≠some t):(bE fr dst p).getD t x=fr.getD t x:=by
 cases dst with
 |none=>rfl
 |some d=>
  have:d≠t:=λe=>h Da
  simp only[bE,yAA,yAd this]
theorem X4:∀(l:List Oper) (ms:List Nat) (i k:Nat) (fr:List PD) (σ:List aB) (tr:List TE) (fr':List PD) (σ':List aB) (t:Nat) (x:PD),
  eW P call fl ops ms i k l fr σ=some (tr,fr',σ')->(∀o∈l,o.dst≠some t)->fr'.getD t x=fr.getD t x
 | [],_,_,_,_,_,_,_,_,_,_,h,_=>by
   simp only[eW,yAb,yAc]at h;rw[h.2.1]
 |o::l,ms,i,k,fr,σ,tr,fr',σ',t,x,h,hn=>by
  simp only[eW]at h;split at h
  .split at h
   .exact iw
   .cases h
  .exact iw
theorem aOO{fr:Gc}{op:Op}{t id:Nat}(ha:K2 op=some t)(h:lK fr op=some id):fU (fr.getD t (.aI []))=some id:=by
 unfold K2 at ha;split at ha
 .exact mw
 .exact mw
 .exact mw
 .cases ha
theorem PW:∀(l:List Oper) (ms:List Nat) (i k:Nat) (fr:List PD) (σ:List aB) (tr:List TE) (fr':List PD) (σ':List aB) (j t id:Nat) (o:Oper),
  eW P call fl ops ms i k l fr σ=some (tr,fr',σ')->l[j]?=some o->K2 o.op=some t->HY l j t=true->(tr[j]?).bind TE.iZ=some id->fU (fr'.getD t (.aI []))=some id
 | [],_,_,_,_,_,_,_,_,_,_,_,_,_,h1,_,_,_=>by simp at h1
 |o::l,ms,i,k,fr,σ,tr,fr',σ',j,t,id,o',h,h1,ha,hu,hf=>by
  have hall:∀ {j:Nat} {l:List Oper},HY l j t=true->∀o∈l.drop j,o.dst≠some t:=λhx o ho=>by
   have:=yAn.1 hx o ho;exact cr
  have hx:=hall hu;simp only[eW]at h;split at h
  .split at h
   .split at h
    .rename_i hrec;simp only[yAb,yAc]at h;obtain⟨rfl,rfl,rfl⟩:=h;cases j with
     |zero=>
      simp only[yBv,yAb]at h1;subst h1;simp only[yBv,yCI]at hf;simp only[yCd]at hx;rw[X4 l ms _ _ _ _ _ _ _ t _ hrec (λo' ho'=>hx o' (by simp[ho'])),X3 (hx o Ai)];exact aOO ha hf
     |succ j=>
      exact ny
    .cases h
   .cases h
  .split at h
   .rename_i hrec;simp only[yAb,yAc]at h;obtain⟨rfl,rfl,rfl⟩:=h;cases j with
    |zero=>simp at hf
    |succ j=>
     exact ny
   .cases h
end
section
variable{P:Program}{E:aE}{fl:Nat}{fr:Gc}{σ:Gb}
theorem aOP(hU:aH E){n:Nat}{ops:Gg}{x:Gc×Gb}(L:List (Nat×Nat))(hs:(xV ops&&vR ops&&EA ops&&aEC ops L)=true)
  (h:eF P (kJ E) fl ops ops.toList fr σ=some x) (hp:K3 x.1 L):oV P (eN P E n) fl ops fr σ=some x:=by
 simp only[yAr,xV]at hs;obtain⟨⟨⟨h1,h2⟩,h3⟩,h4⟩:=hs;rw[rY]at h1;have hr:=DU h1;obtain⟨hs,tr,e1,e2⟩:=GY (n:=n) hU (cN ops.toList []) (λi o ho=>hr.shape i o ho) h2 h3 ops.toList 0 fr σ x Ai h;unfold oV;simp only[h1,yAL,e1,e2];have hfo:pE ops.toList (cN ops.toList []) tr=true:=by
  simp only[pE,yAn,yAX];intro k hk;cases hs:fA iP ops.toList k with
  |false=>simp
  |true=>
   simp only[yBJ,yCc,yAn,yAX];intro i hi;cases hli:fA fB ops.toList i with
   |false=>simp
   |true=>
    cases hlo:loose (cN ops.toList []) i k with
    |false=>simp
    |true=>
     simp only[yBJ,yCc];have hm:(i,k)∈X2 ops.toList:=by
      rw[X2,rY];exact mj
     have hpo:=yAn.1 h4 _ hm;unfold aEB at hpo;split at hpo
     .rename_i o o' ho ho';split at hpo
      .rename_i a b ha hb;simp only[yAr,List.any_eq_true,yCg]at hpo;obtain⟨⟨⟨y,hy,rfl,rfl⟩,hu1⟩,hu2⟩:=hpo;split
       .rename_i a' b' ea eb;have f1:=PW _ _ _ _ _ _ _ _ _ i _ a' o e2 ho ha hu1 ea;have f2:=PW _ _ _ _ _ _ _ _ _ k _ b' o' e2 ho' hb hu2 eb;simpa using aED hp y hy a' b' f1 f2
       .rfl
      .cases hpo
     .cases hpo
 rw[yAJ hfo]
theorem Wp.aOQ{rd:Option Nat}{ms:List Nat}{Q:PO->Prop}{ops:Gg}{id:Nat}{y:Code}(hU:aH E)(L:List (Nat×Nat))(hs:(xV ops&&vR ops&&EA ops&&aEC ops L)=true)
  (h:SQ P (kJ E) fl ops ops.toList fr σ (λfr' σ'=>K3 fr' L/\Wp P E rd y fl fr' ms σ' Q)) :
  Wp P E rd (.seq (.region id ops true) y) fl fr ms σ Q:=by
 obtain⟨fr',σ',h1,h2,h3⟩:=h.ex;exact .seq ⟨_,.draw (N:=0) (λn _=>aOP hU L hs h1 h2),.normal h3⟩
end
end
section
open Go.RowKit Go.Lib
variable{P:Program}
theorem QJ{t e ty:TypeId}{k:Nat}(hu:P.underlying t=some (.slice e))(hsz:∀w,(Go.sizeOf e).run P w=.ok k w)(w:World)(b off n dc:Nat)(B:Option Addr)(m sc q:Nat)(hq:Nat.min m n=q)(cells:List Value)
  (hlen:cells.length=q*k) (hload:∀(j:Nat) (v:Value),cells[j]?=some v->∃ad,B=some ad/\w.cell? (ad.add j)=some v) {cur:Gf} {T:TypeId} (hb:w.heap[b]?=some (.cells cur T (0,0))) (hle:off+cells.length<=cur.size) (h1:∀v∈cells,v.oneCell'=true) :
  (Builtin.copy_ #[t,t] ty #[.slice (some ⟨b,off,none⟩) n dc,.slice B m sc]).run P w=.ok (goInt q) (w.setRow b (cur.toList.take off++cells++cur.toList.drop (off+cells.length)).toArray):=by
 subst hq;have hst:=yCZ (P:=P) b off T cells 0 cur w hb Ah h1;simp only[yBo]at hst;have hf:(Builtin.firstCells k (Nat.min m n) (.slice B m sc)).run P w=.ok cells.toArray w:=by
  cases B with
  |none=>
   have:cells=[]:=by
    cases cells with
    |nil=>rfl
    |cons x xs=>obtain⟨_,e',_⟩:=hload 0 x rfl;cases e'
   exact rm
  |some bd=>
   simp only[Builtin.firstCells];exact BV hlen λj v hj=>by
    obtain⟨ad,e',h9⟩:=hload j v hj;exact kj
 simp[Builtin.copy_,yAM hu,Builtin.lenOf,hsz,hf,goInt,hst]
theorem aQv(w:World)(tS tR e:TypeId)(ht:P.underlying tS=some (.slice e))(size:Nat)(hz:∀w,(Go.sizeOf e).run P w=.ok size w)
  (a b:Addr) (la ca lb cb:Nat) (hne:a.block≠b.block) {cA cB:Gf} {TA TB:TypeId} {fz:Nat×Nat} (ha:w.heap[a.block]?=some (.cells cA TA fz)) (ha0:cA.size≠0) (hb:w.heap[b.block]?=some (.cells cB TB (0,0))) :
  (Extern.SlicesOverlaps.overlaps #[tS,tS] #[tR] #[.slice (some a) la ca,.slice (some b) lb cb]).run P w=.ok (.bool false) w:=by
 have hnb:(a.block != b.block)=true:=by simpa using hne
 have aQw:(a.block==b.block)=false:=by simpa using hne
 have hsa:w.shape? a.block=some (TA,cA.size):=by unfold World.shape?;rw[ha]
 have hsb:w.shape? b.block=some (TB,cB.size):=by unfold World.shape?;rw[hb]
 have hfb:w.frozen? b=false:=by unfold World.frozen?;rw[hb];simp
 have hfe:w.frozen? { block:=b.block,off:=cB.size }=false:=by unfold World.frozen?;simp only[hb];simp
 obtain⟨kA,hkA⟩:∃kA,cA.size=kA+1:=⟨cA.size-1,Ah⟩;rw[hkA]at hsa
 change Sem.run P (α:=Value) (do
  let some t:=(#[tS,tS]:Array TypeId)[0]? | stuck "slices.overlaps: no parameter types"
  let .slice elem <-underlying t|stuck "slices.overlaps: slice type expected"
  let size <-sizeOf elem
  match (some a:Option Addr),(some b:Option Addr)with
  |some a,some b=>
   if la=0\/lb=0\/size=0 then pure (Value.bool false)
   else if a.block != b.block&&(<-frozen a)&&(<-frozen b)then unsupported .addressObserved
   else do
    if a.block != b.block then do
     noView a;noView b
     if <-mayBeOne a b then return Value.bool ((<-choose (.extern "sameAddr.stringBytes" 2))==1)
    pure (Value.bool (a.block==b.block&&a.off<b.off+lb*size&&b.off<a.off+la*size))
  |_,_=>pure (Value.bool false)) w=_
 by_cases h0:la=0\/lb=0\/size=0
 .simp[yAM ht,hz,h0]
 .cases hA:w.frozen? a<;>cases hA2:w.frozen? { block:=a.block,off:=kA+1 } <;>
   simp[yAM ht,hz,h0,hnb,aQw,frozen,noView,viewAt,mayBeOne,stringish,shape,Sem.run,hsa,hsb,hfb,hfe,hA,hA2]
theorem LP{x:Int}(h0:0<=x)(h1:x<9223372036854775808):wrap64 x=x:=by unfold wrap64;omega
theorem aQx{n c:Nat}(hc:c<=200)(hn:n+1<=201):Builtin.nextslicecap (n+1) c<=1000:=by
 unfold Builtin.nextslicecap;split
 .omega
 .rw[yAJ Ah];omega
theorem aQy{n i c G:Nat}(hi:i<n)(hnc:n<=c)(hroom:c<n+1)(hn:n<=200)(hge:n+1<=G) :
  ¬((i:Int)=(n:Int))/\IntKind.i64.wrap ((n:Int)+1)=(n:Int)+1/\IntKind.i64.wrap ((i:Int)+1)=(i:Int)+1/\wrap64 ((n:Int)+1)=(n:Int)+1/\wrap64 ((i:Int)+1)=(i:Int)+1 /\
  ((n:Int)+1-i)=((n+1-i:Nat):Int)/\wrap64 ((n:Int)+1-i)=(n:Int)+1-i/\(c:Int)<(n:Int)+1/\(i:Int)<=(n:Int)/\(i:Int)<=(c:Int)/\(0:Int)<=(i:Int)+1/\(i:Int)+1<=(n:Int)+1/\(i:Int)<=(n:Int)+1 /\
  ¬(G=i+1)/\¬(G=i)/\¬(c=i)/\((i:Int)+1).toNat=i+1/\i+(n+1-i)=n+1:=by
 have h1:((n:Int)+1-i)=((n+1-i:Nat):Int):=Ah;refine⟨Ah,Am,Am,LP Ah Ah,LP Ah Ah,h1,?_,Ah,Ah,Ah,Ah,Ah,Ah,Ah,Ah,Ah,Ah,Ah⟩;exact LP Ah Ah
theorem aQz{n i c LQ:Nat}(hi:i<n)(hnc:n<=c)(hroom:c<n+1)(hn:n<=200)(hib:LQ<=1000):0<n+1-i/\c<i+(n+1-i)/\((i+(n+1-i):Nat):Int)<=9223372036854775807/\(n+1-i)*LQ<=281474976710656/\Builtin.nextslicecap (i+(n+1-i)) c*LQ<=281474976710656:=by
 have e:i+(n+1-i)=n+1:=Ah;have h1:(n+1-i)*LQ<=1000*1000:=yDy Ah hib;have h2:Builtin.nextslicecap (n+1) c*LQ<=1000*1000:=yDy (aQx Ah Ah) hib;rw[e];exact⟨Ah,Ah,Ah,Ah,Ah⟩
structure Kept (p:Prop):Prop where
 out:p
def aFr(P:Program)(e:TypeId)(k:Nat):Bool:=match P.info? e with
 |some i=>match i.zero with
  |some z=>decide (i.size=k)&&decide (i.bytes<=1000)&&decide (z.cells.size=k)&&z.cells.toList.all Value.oneCell'
  |none=>false
 |none=>false
theorem QG{e:TypeId}{k:Nat}(h:aFr P e k=true):∃i z,P.info? e=some i/\i.zero=some z/\i.size=k/\i.bytes<=1000/\z.cells.size=k/\∀v∈z.cells.toList,v.oneCell'=true:=by
 unfold aFr at h;split at h
 .rename_i i hi;split at h
  .rename_i z hz;simp only[yAr,yCk]at h;exact⟨i,z,hi,hz,h.1.1.1,h.1.1.2,h.1.2,λv hv=>yAn.1 h.2 v hv⟩
  .cases h
 .cases h
theorem Y5(w:World):w.drew.heap=w.heap:=rfl
def aQA(w:World)(b c e k n:Nat)(L:List Value):Ending->World->Prop:=λen w'=>∃b' C' cur',en=.returned (.slice (some ⟨b',0,none⟩) (n+1) C')/\(b'=b/\C'=c\/w.heap.size<=b')/\n+1<=C'/\C'<=maxLen /\
 (w'.os=w.os/\w'.tape=w.tape/\w'.output=w.output/\w.heap.size<=w'.heap.size)/\(∀j,j<w.heap.size->j≠b->w'.heap[j]?=w.heap[j]?)/\w'.heap[b']?=some (.cells cur' e (0,0))/\cur'.size=C'*k/\(∀v∈cur'.toList,v.oneCell'=true)/\∃rest,cur'.toList=L++rest
def IE(P:Program)(f:FuncId)(e k:Nat):Prop:=∀(w:World) (b n c i vc:Nat) (a:Addr) (cur:Array Value) (vs:List Value) (cA:Array Value) (TA:TypeId) (fz:Nat×Nat),
 i<n->n<=c->n<=200->c<=maxLen->w.heap[b]?=some (.cells cur e (0,0))->cur.size=c*k->a.block≠b->w.heap[a.block]?=some (.cells cA TA fz)->cA.size≠0->vs.length=k ->
 (∀(j:Nat) (v:Value),vs[j]?=some v->w.cell? (a.add j)=some v)->(∀v∈cur.toList,v.oneCell'=true)->(∀v∈vs,v.oneCell'=true) ->
 Calls P f #[.slice (some ⟨b,0,none⟩) n c,.int .i64 i,.slice (some a) 1 vc] w (aQA w b c e k n (cur.toList.take (i*k)++vs++(cur.toList.drop (i*k)).take ((n-i)*k)))
def xW(e k:Nat):Nat->List PD->List aB->Option (PD×List aB):=λfl args σ=>match args with
 | [.aR id ver 0 n sz,.int .i64 i,.slice sx [y] _]=>match σ[id]? with
   |some (.row e' size fO cs)=>if fl<=id/\fO=ver/\size=k/\sz=k/\e'=e/\cs.length=n*k/\0<=i/\i<n/\n<=200/\sx=k/\0<k then
     some (.aR id (ver+1) 0 (n+1) k,σ.set id (.row e k (ver+1) (cs.take (i.toNat*k)++y.cells++cs.drop (i.toNat*k))))else none
   |_=>none
 |_=>none
theorem aFq{c:Cx}{vs:Ge}{p q r:PD}(h:aV c vs [p,q,r]):∃v u x,vs=[v,u,x]/\VR c v p/\VR c u q/\VR c x r:=by
 match vs,h.1 with
 | [v,u,x],_=>exact⟨v,u,x,rfl,h.2 0 _ _ rfl rfl,h.2 1 _ _ rfl rfl,h.2 2 _ _ rfl rfl⟩
theorem Y6(a:Addr)(j:Nat):(a.add j).block=a.block:=Dx
theorem aF.KC{E:aE}(hE:aF P E){f:FuncId}{e k:Nat}(hf:∃fn,P.funcs[f]?=some fn/\fn.body.isSome=true)(H:IE P f e k):aF P (E.add f (xW e k)):=by
 refine hE.LL hf λfl args c vs p σ' hg hs _ hv=>?_
 unfold xW at hg;split at hg
 rotate_left
 .cases hg
 rename_i id ver n sz i sx y tok;split at hg
 rotate_left
 .cases hg
 rename_i e' size fO cs hq;split at hg
 rotate_left
 .cases hg
 rename_i hc;obtain⟨hfl,rfl,rfl,rfl,rfl,hlen,xU,hin,hn2,rfl,hk⟩:=hc;simp only[yAb,yAc]at hg;obtain⟨rfl,rfl⟩:=hg;obtain⟨v1,v2,v3,rfl,h1,h2,h3⟩:=aFq hv;obtain⟨b,cap,rfl,hp,q1,q2⟩:=h1.BU;obtain⟨_,C,hr,hCo⟩:=(hp.2 _ _ _ cs hq).2 rfl;obtain⟨b',C',cur,e1,e2,e3,e4,e5,e6,e7,e8⟩:=hs.row id _ _ _ cs hp.1 hq;rw[hr]at e1;simp only[yBN,yAb,yBG,yBl,yCp]at e1;obtain⟨rfl,rfl⟩:=e1;have hcapC:cap=C:=yEd hk Ah;subst hcapC;obtain rfl:=h2.int_eq;obtain⟨j,rfl⟩:=Int.eq_ofNat_of_zero_le xU;have hjn:j<n:=Ah;obtain⟨A,capx,flx,rfl,a1,a2,a3,a4,a5,a6,a7,a8⟩:=h3.oF;simp only[yCX,Nat.one_mul]at a4;obtain⟨ad,rfl,hcell,hav⟩:=a6 0 (flx[0]' Ah) (by simp[a4,hk]);have hne:ad.block≠b:=by
  have:=hav.2 id _ hp.1 hq b Cb
  rwa [Y6]at this
 obtain⟨cA,TA,fz,hA,rN⟩:∃cA TA fz,c.w.heap[ad.block]?=some (.cells cA TA fz)/\cA.size≠0:=by
  unfold World.cell? at hcell;rw[Y6]at hcell;split at hcell
  .rename_i cA TA fz hA;refine⟨cA,TA,fz,hA,λh0=>?_⟩;split at hcell
   .cases hcell
   .rw[Array.getElem?_eq_none Ah]at hcell;cases hcell
  .cases hcell
 have hjk:j*sx<=cs.length:=by rw[hlen];exact yBO _ Ah
 have hnj:(n-j)*sx=cs.length-j*sx:=by rw[hlen,Nat.sub_mul]
 have p1:aV c (cur.toList.take (j*sx)) (cs.take (j*sx)):=by
  have:=e7.take_drop 0 (j*sx);rw[yCd,yCd,yCj,yBK hjk]at this;exact this
 have p2:aV c ((cur.toList.drop (j*sx)).take ((n-j)*sx)) (cs.drop (j*sx)):=by
  have:=e7.take_drop (j*sx) ((n-j)*sx);rw[yDw,yCj,<-hnj,Nat.min_self]at this
  rwa [yAz (l:=cs.drop (j*sx)) (by rw[yBg,hnj];exact yAk _)]at this
 have p3:aV c flx y.cells:=by
  have hy:[y].flatMap PD.cells=y.cells:=Ai;rw[hy]at a7;exact⟨by rw[a4];exact(a3 y Ai).symm,a7⟩
 have pall:aV c (cur.toList.take (j*sx)++flx++(cur.toList.drop (j*sx)).take ((n-j)*sx)) (cs.take (j*sx)++y.cells++cs.drop (j*sx)):=(p1.append p3).append p2;refine yBA (H c.w b n cap j capx ad cur flx cA TA fz hjn q1 hn2 q2 e2 e3 hne hA rN a4 (λm v hm=>?_) e8 a5) λen w' he=>?_
 .obtain⟨JM,e9,h9,_⟩:=a6 m v hm;cases e9;exact h9
 obtain⟨b2,C2,JN,rfl,hb2,g1,g2,g3,g4,g5,g6,g7,rest,g8⟩:=he;have hk1:∀m,m<c.w.heap.size->bA (c.ρ id)≠some m->w'.heap[m]?=c.w.heap[m]?:=λm hm h=>g4 m hm (λe=>h (by rw[hr,e];rfl))
 have hk2:bA (.slice (some ⟨b2,0,none⟩) 0 C2)=bA (c.ρ id)\/∀b0,bA (.slice (some ⟨b2,0,none⟩) 0 C2)=some b0->c.w.heap.size<=b0:=by
  rcases hb2 with⟨rfl,rfl⟩ | hb2
  .exact .inl (by rw[hr])
  .exact .inr λb0 h=>by simp only[bA,yAb]at h;omega
 have hL:(cs.take (j*sx)++y.cells++cs.drop (j*sx)).length=(cur.toList.take (j*sx)++flx++(cur.toList.drop (j*sx)).take ((n-j)*sx)).length:=pall.1.symm;have hall:∃b0 C0 l7,Value.slice (some ⟨b2,0,none⟩) 0 C2=.slice (some ⟨b0,0,none⟩) 0 C0/\w'.heap[b0]?=some (.cells l7 e' (0,0))/\l7.size=C0*sx/\C0<=maxLen/\0<sx /\
   (cs.take (j*sx)++y.cells++cs.drop (j*sx)).length<=l7.size/\aV c (l7.toList.take (cs.take (j*sx)++y.cells++cs.drop (j*sx)).length) (cs.take (j*sx)++y.cells++cs.drop (j*sx))/\∀v∈l7.toList,v.oneCell'=true:=by
  refine⟨b2,C2,JN,rfl,g5,g6,g2,hk,?_,?_,g7⟩
  .rw[hL];have:=yAK List.length g8;exact qv
  .rw[hL,g8,yCr];exact pall
 have hcar:((Int.ofNat j).toNat)=j:=rfl;refine⟨c.put w' id (.slice (some ⟨b2,0,none⟩) 0 C2) (.row e' sx (fO+1) (cs.take (j*sx)++y.cells++cs.drop (j*sx))),rfl,rfl,Sr.putRow hs hp.1 hq (yCs _) (λh=>Ah) g3 hk1 hk2 hall,
  Nx.putRow hs hp.1 hq hfl (yCs _) (λh=>Ah) g3 hk1 hk2,?_,λi hi=>.inl hi⟩
 refine .aR _ _ _ _ _ _ _ ⟨hp.1,λe0 DZ v1 BW hq1=>?_⟩ g1 g2;exact jq
end
section
open Go
def IC:Op->Option Tmp
 |.load _ (.tmp t)=>some t
 |.store _ (.tmp t) _=>some t
 |_=>none
def FJ(t:Tmp)(l:List Oper):Bool:=l.all λo=>o.dst != some t
def Y2(ops:List Oper):List (Option (Tmp×Tmp)):=s6 ops [] λms=>
 (List.range ops.length).flatMap λk=>if fA iP ops k then(List.range ops.length).filterMap λi=>if fA fB ops i&&loose ms i k then
  some (match (ops[i]?).bind (λo=>IC o.op),(ops[k]?).bind (λo=>IC o.op)with
   |some a,some b=>if FJ a (ops.drop i)&&FJ b (ops.drop k)then some (a,b)else none
   |_,_=>none)else none else []
def QF(fr:List PD):List (Option (Tmp×Tmp))->Prop
 | []=>True
 |some x::l=>(∀a b,fU (fr.getD x.1 (.aI []))=some a->fU (fr.getD x.2 (.aI []))=some b->a≠b)/\QF fr l
 |none::_=>False
theorem aFn{fr:Gc}:∀ {l:List (Option (Tmp×Tmp))},QF fr l->∀x,x∈l->∃a b,x=some (a,b)/\∀i j,fU (fr.getD a (.aI []))=some i->fU (fr.getD b (.aI []))=some j->i≠j
 | [],_,_,h=>Ap
 |some y::l,h,x,hm=>by
  rcases yBh.1 hm with e|hm
  .exact⟨y.1,y.2,e,h.1⟩
  .exact aFn h.2 x hm
 |none::_,h,_,_=>h.elim
section
variable{P:Program}{call:dA}{fl:Nat}{ops:Gg}
theorem aFo{fr:Gc}{d:Option Tmp}{p:PD}{t:Tmp}(h:d≠some t):(bE fr d p).getD t (.aI [])=fr.getD t (.aI []):=by
 cases d with
 |none=>rfl
 |some d=>
  simp only[bE];rw[yAA,yAd (λe=>h Da),<-yAA]
theorem Y3{t:Tmp}:∀(l:List Oper) (ms:List Nat) (i k:Nat) (fr:List PD) (σ:List aB) (tr:List TE) (fr':List PD) (σ':List aB),
  eW P call fl ops ms i k l fr σ=some (tr,fr',σ')->FJ t l=true->fr'.getD t (.aI [])=fr.getD t (.aI [])
 | [],_,_,_,_,_,_,_,_,h,_=>by
   simp only[eW,yAb,yAc]at h;rw[h.2.1]
 |o::l,ms,i,k,fr,σ,tr,fr',σ',h,hc=>by
  simp only[FJ,yCv,yAr]at hc;have hd:o.dst≠some t:=by simpa using hc.1
  simp only[eW]at h;split at h
  .split at h
   .exact jt
   .cases h
  .exact jt
theorem Y4:∀(l:List Oper) (ms:List Nat) (i k:Nat) (fr:List PD) (σ:List aB) (tr:List TE) (fr':List PD) (σ':List aB),
  eW P call fl ops ms i k l fr σ=some (tr,fr',σ')->∀j a t,(tr[j]?).bind TE.iZ=some a->(l[j]?).bind (λo=>IC o.op)=some t->FJ t (l.drop j)=true->fU (fr'.getD t (.aI []))=some a
 | [],_,_,_,_,_,_,_,_,_,_,_,_,_,h2,_=>by simp at h2
 |o::l,ms,i,k,fr,σ,tr,fr',σ',h,j,a,t,h1,h2,hc=>by
  have h0:=h;simp only[eW]at h;split at h
  .split at h
   .split at h
    .rename_i hrec;simp only[yAb,yAc]at h;obtain⟨rfl,rfl,rfl⟩:=h;cases j with
     |zero=>
      rw[yCd]at hc;rw[Y3 _ _ _ _ _ _ _ _ _ h0 hc];simp only[yBv,yCI]at h1 h2;unfold IC at h2;split at h2
      .exact qf
      .exact qf
      .cases h2
     |succ j=>
      exact qk
    .cases h
   .cases h
  .split at h
   .rename_i hrec;simp only[yAb,yAc]at h;obtain⟨rfl,rfl,rfl⟩:=h;cases j with
    |zero=>simp at h1
    |succ j=>
     exact qk
   .cases h
end
section
variable{P:Program}{E:aE}{fl:Nat}{fr:Gc}{σ:Gb}
theorem aQq(hU:aH E){n:Nat}{ops:Gg}{x:Gc×Gb}{L:List (Option (Tmp×Tmp))}(hs:(xV ops&&vR ops&&EA ops)=true)
  (hL:Y2 ops.toList=L) (hp:QF x.1 L) (h:eF P (kJ E) fl ops ops.toList fr σ=some x):oV P (eN P E n) fl ops fr σ=some x:=by
 simp only[yAr,xV]at hs;obtain⟨⟨h1,h2⟩,h3⟩:=hs;rw[rY]at h1;have hr:=DU h1;obtain⟨hs,tr,e1,e2⟩:=GY (n:=n) hU (cN ops.toList []) (λi o ho=>hr.shape i o ho) h2 h3 ops.toList 0 fr σ x Ai h;have hft:=Y4 _ _ _ _ _ _ _ _ _ e2;unfold oV;simp only[h1,yAL,e1,e2];have hfo:pE ops.toList (cN ops.toList []) tr=true:=by
  simp only[pE,yAn,yAX];intro k hk;cases hs:fA iP ops.toList k with
  |false=>simp
  |true=>
   simp only[yBJ,yCc,yAn,yAX];intro i hi;cases hli:fA fB ops.toList i with
   |false=>simp
   |true=>
    cases hlo:loose (cN ops.toList []) i k with
    |false=>simp
    |true=>
     simp only[yBJ,yCc];have hm:(match (ops.toList[i]?).bind (λo=>IC o.op),(ops.toList[k]?).bind (λo=>IC o.op)with
       |some a,some b=>if FJ a (ops.toList.drop i)&&FJ b (ops.toList.drop k)then some (a,b)else none
       |_,_=>none)∈L:=by
      rw[<-hL,Y2,rY];exact mj
     obtain⟨a,b,hab,hne⟩:=aFn hp _ hm;split at hab
     .rename_i a1 b1 pa pb;split at hab
      .rename_i hc;simp only[yAr]at hc;simp only[yAb,yAc]at hab;obtain⟨rfl,rfl⟩:=hab;split
       .rename_i a' b' ea eb;have:=hne _ _ (hft i a' _ ea pa hc.1) (hft k b' _ eb pb hc.2);exact cr
       .rfl
      .cases hab
     .cases hab
 rw[yAJ hfo]
theorem Wp.aNZ{rd:Option Nat}{ms:List Nat}{Q:PO->Prop}{ops:Gg}{id:Nat}(hU:aH E)(L:List (Option (Tmp×Tmp)))(hs:(xV ops&&vR ops&&EA ops)=true)
  (hL:Y2 ops.toList=L) (h:SQ P (kJ E) fl ops ops.toList fr σ (λfr' σ'=>QF fr' L/\Q ⟨.normal,fr',ms,σ'⟩)) :
  Wp P E rd (.region id ops true) fl fr ms σ Q:=by
 obtain⟨fr',σ',h1,h2⟩:=h.ex;exact⟨_,.draw (N:=0) (λn _=>aQq hU hs hL h2.1 h1),h2.2⟩
end
end
section
open Go.RowKit Go.Lib
variable{P:Program}
def aQu(w:World)(b c e k m:Nat)(L:List Value):Ending->World->Prop:=λen w'=>∃cur',en=.returned (.slice (some ⟨b,0,none⟩) m c) /\
 (w'.os=w.os/\w'.tape=w.tape/\w'.output=w.output/\w.heap.size<=w'.heap.size)/\(∀j,j≠b->w'.heap[j]?=w.heap[j]?)/\w'.heap[b]?=some (.cells cur' e (0,0))/\cur'.size=c*k/\(∀v∈cur'.toList,v.oneCell'=true)/\∃rest,cur'.toList=L++rest
def ID(P:Program)(f:FuncId)(e k:Nat):Prop:=∀(w:World) (b n c i:Nat) (cur:Array Value),
 i<n->n<=c->c<=maxLen->w.heap[b]?=some (.cells cur e (0,0))->cur.size=c*k->(∀v∈cur.toList,v.oneCell'=true) ->
 Calls P f #[.slice (some ⟨b,0,none⟩) n c,.int .i64 i,.int .i64 ((i:Int)+1)] w (aQu w b c e k (n-1) (cur.toList.take (i*k)++(cur.toList.drop ((i+1)*k)).take ((n-1-i)*k)))
def rH(e k:Nat):Nat->List PD->List aB->Option (PD×List aB):=λfl args σ=>match args with
 | [.aR id ver 0 n sz,.int .i64 i,.int .i64 j]=>match σ[id]? with
   |some (.row e' size fO cs)=>if fl<=id/\fO=ver/\size=k/\sz=k/\e'=e/\cs.length=n*k/\0<=i/\i<n/\j=i+1/\0<k then
     some (.aR id (ver+1) 0 (n-1) k,σ.set id (.row e k (ver+1) (cs.take (i.toNat*k)++cs.drop ((i.toNat+1)*k))))else none
   |_=>none
 |_=>none
theorem aF.KD{E:aE}(hE:aF P E){f:FuncId}{e k:Nat}(hf:∃fn,P.funcs[f]?=some fn/\fn.body.isSome=true)(H:ID P f e k):aF P (E.add f (rH e k)):=by
 refine hE.LL hf λfl args c vs p σ' hg hs _ hv=>?_
 unfold rH at hg;split at hg
 rotate_left
 .cases hg
 rename_i id ver n sz i j;split at hg
 rotate_left
 .cases hg
 rename_i e' size fO cs hq;split at hg
 rotate_left
 .cases hg
 rename_i hc;obtain⟨hfl,rfl,rfl,rfl,rfl,hlen,xU,hin,rfl,hk⟩:=hc;simp only[yAb,yAc]at hg;obtain⟨rfl,rfl⟩:=hg;obtain⟨v1,v2,v3,rfl,h1,h2,h3⟩:=aFq hv;obtain⟨b,cap,rfl,hp,q1,q2⟩:=h1.BU;obtain⟨_,C,hr,hCo⟩:=(hp.2 _ _ _ cs hq).2 rfl;obtain⟨b',C',cur,e1,e2,e3,e4,e5,e6,e7,e8⟩:=hs.row id _ _ _ cs hp.1 hq;rw[hr]at e1;simp only[yBN,yAb,yBG,yBl,yCp]at e1;obtain⟨rfl,rfl⟩:=e1;have hcapC:cap=C:=yEd hk Ah;subst hcapC;obtain rfl:=h2.int_eq;obtain rfl:=h3.int_eq;obtain⟨j,rfl⟩:=Int.eq_ofNat_of_zero_le xU;have hjn:j<n:=Ah;have hcar:((Int.ofNat j).toNat)=j:=rfl;have hj1:(j+1)*sz<=cs.length:=by rw[hlen];exact yBO _ Ah
 have hjk:j*sz<=cs.length:=by rw[hlen];exact yBO _ Ah
 have hnj:(n-1-j)*sz=cs.length-(j+1)*sz:=by rw[hlen,<-Nat.sub_mul];congr 1;omega
 have p1:aV c (cur.toList.take (j*sz)) (cs.take (j*sz)):=by
  have:=e7.take_drop 0 (j*sz);rw[yCd,yCd,yCj,yBK hjk]at this;exact this
 have p2:aV c ((cur.toList.drop ((j+1)*sz)).take ((n-1-j)*sz)) (cs.drop ((j+1)*sz)):=by
  have:=e7.take_drop ((j+1)*sz) ((n-1-j)*sz);rw[yDw,yCj,<-hnj,Nat.min_self]at this
  rwa [yAz (l:=cs.drop ((j+1)*sz)) (by rw[yBg,hnj];exact yAk _)]at this
 have pall:=p1.append p2;refine yBA (H c.w b n cap j cur hjn q1 q2 e2 e3 e8) λen w' he=>?_
 obtain⟨JN,rfl,g3,g4,g5,g6,g7,rest,g8⟩:=he;have hk1:∀m,m<c.w.heap.size->bA (c.ρ id)≠some m->w'.heap[m]?=c.w.heap[m]?:=λm hm h=>g4 m (λe=>h (by rw[hr,e];rfl))
 have hL:(cs.take (j*sz)++cs.drop ((j+1)*sz)).length=(cur.toList.take (j*sz)++(cur.toList.drop ((j+1)*sz)).take ((n-1-j)*sz)).length:=pall.1.symm;have hall:∃b0 C0 l7,c.ρ id=.slice (some ⟨b0,0,none⟩) 0 C0/\w'.heap[b0]?=some (.cells l7 e' (0,0))/\l7.size=C0*sz/\C0<=maxLen/\0<sz /\
   (cs.take (j*sz)++cs.drop ((j+1)*sz)).length<=l7.size/\aV c (l7.toList.take (cs.take (j*sz)++cs.drop ((j+1)*sz)).length) (cs.take (j*sz)++cs.drop ((j+1)*sz))/\∀v∈l7.toList,v.oneCell'=true:=by
  refine⟨b,cap,JN,hr,g5,g6,q2,hk,?_,?_,g7⟩
  .rw[hL];have:=yAK List.length g8;exact qv
  .rw[hL,g8,yCr];exact pall
 refine⟨c.put w' id (c.ρ id) (.row e' sz (fO+1) (cs.take (j*sz)++cs.drop ((j+1)*sz))),rfl,rfl,Sr.putRow hs hp.1 hq (yCs _) (λ_=>rfl) g3 hk1 (.inl rfl) hall,
  Nx.putRow hs hp.1 hq hfl (yCs _) (λ_=>rfl) g3 hk1 (.inl rfl),?_,λi hi=>.inl hi⟩
 refine .aR _ _ _ _ _ _ _ ⟨hp.1,λe0 DZ v1 BW hq1=>?_⟩ Ah q2;exact jf
end
section
def ZW(op:Op)(σ σ':List aB):Prop:=σ.length<=σ'.length/\∀(id:Nat) (b:PD),σ[id]?=some (aB.box b)->∃b',σ'[id]?=some (aB.box b')/\(iP op=false->b'=b)
section
variable{P:Program}{E:aE}{fl:Nat}{ops:Gg}
def DQ(P:Program)(call:dA)(fl:Nat)(ops:Array Oper)(i k:Nat)(l:List Oper)(fr:List PD)(σ:List aB)(F:List PD)(S:List aB):Prop:=∃tr,eW P call fl ops (cN ops.toList []) i k l fr σ=some (tr,F,S)
end
end
end Go.Kz
end
