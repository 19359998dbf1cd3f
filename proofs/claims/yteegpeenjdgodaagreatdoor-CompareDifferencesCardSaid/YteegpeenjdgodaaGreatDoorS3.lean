/- Steps of the proof. -/
import Derived.Test.YteegpeenjdgodaaGreatDoorS2
import Derived.Below
import Derived.OpenShut
import Derived.FnData
import Derived.MakeChecks
import Derived.ProofKit
import Derived.LaidMore
import Derived.Stop.Joined
import Derived.ChangeArms
import Derived.DataReads
import Derived.Test.YteegpeenjdgodaaGreatDoorProg
import Derived.KernelRfl
import Derived.Handed
import Derived.SizedLaws
import Derived.Lib.Overlaps
import Derived.Lib.AppendZerosOnto
set_option linter.all false
set_option maxHeartbeats 40000000
set_option maxRecDepth 100000
open Go.Proofs.Tryz
noncomputable section
namespace Go.Kz
section
open Go.RowKit
def Cx.start(w:World):Cx:={ w:=w,ρ:=λ_=>undef,σ:=[],D:=λ_=>False,X:=λ_=>True }
theorem Sr.start{w:World}(hg:Gl (.start w)):Sr (.start w) where
 box:=λ_ _ h=>h.elim
 own:=λ_ _ _ _ h=>h.elim
 row:=λ_ _ _ _ _ h=>h.elim
 map:=λ_ _ h=>h.elim
 mark:=λ_ h=>h.elim
 loop:=λ_ _ _ _ _ _ h=>h.elim
 inj:=λ_ _ _ h=>h.elim
 lt:=λ_ _ h=>h.elim
 bA:=λ_ h=>h.elim
 fresh:=λ_ _=>trivial
 jA:=hg
theorem YX{w:World}(a:Addr):(Cx.start w).av a:=⟨trivial,λ_ _ h=>h.elim⟩
theorem aF9{P:Program}(hN:∀(f:FuncId) fn,P.funcs[f]?=some fn->(fn.name== "runtime.NumGoroutine")=false):Open Fence.wide P:=⟨λ_=>trivial,rfl,hN,rfl⟩
theorem aGa{P:Program}{E:aE}(hE:aF P E)(hP:P.follows .mixedOrders=true)(hN:∀(f:FuncId) fn,P.funcs[f]?=some fn->(fn.name== "runtime.NumGoroutine")=false)
  {n:Nat} {f:FuncId} {args:Ey} {vs:Fa} {w:World} {p:PD} {σ':Ex} (h:dG P E n 0 (.inl f) args []=some (p,σ')) (hg:Gl (.start w)) (hv:aS (.start w) vs args) :
  Calls P f vs.toArray w λe w'=>∃v c',e=.returned v/\c'.w=w'/\VR c' v p/\Nx 0 (.start w) c'/\Below w.heap.size w w':=by
 have:=((AI hE hP (aF9 hN) n).fn (c:=.start w) (fl:=0) h (.start hg) (λ_ _ h=>h.elim) hv).2 0;refine yBB (callsIn_wide.1 this) λe w' he=>?_
 cases e with
 |returned v=>
  obtain⟨c',e1,_,_,nx,hvv,_⟩:=he;refine⟨v,c',rfl,e1,hvv,nx,?_⟩;subst e1;exact⟨nx.os,nx.tape,nx.output,nx.size,λk hk=>nx.frame k hk (λ_ h=>h.elim)⟩
 |panicked ch=>exact he.elim
 |outgrown=>exact he.elim
theorem aFT{P:Program}{E:aE}(hE:aF P E)(hP:P.follows .mixedOrders=true)(hN:∀(f:FuncId) fn,P.funcs[f]?=some fn->(fn.name== "runtime.NumGoroutine")=false)
  {n:Nat} {f:FuncId} {args:Ey} {vs:Fa} {w:World} {b:Bool} {σ':Ex} (h:dG P E n 0 (.inl f) args []=some (.bool b,σ')) (hg:Gl (.start w)) (hv:aS (.start w) vs args) :
  Calls P f vs.toArray w λe w'=>e=.returned (.bool b)/\Below w.heap.size w w':=by
 refine yBB (aGa hE hP hN h hg hv) λe w' ⟨v,c',h1,h2,h3,h4,h5⟩=>?_
 rw[h3.yL]at h1;exact⟨h1,h5⟩
end
section
open Go.RowKit
end
section
section
variable{P:Program}{E:aE}{rd:Option Nat}{fl:Nat}{fr:Ey}{ms:List Nat}{σ:Ex}{r:PO}
def Ev(P:Program)(E:aE)(rd:Option Nat)(c:Code)(fl:Nat)(fr:List PD)(ms:List Nat)(σ:List aB)(r:PO):Prop:=∃N,∀n,N<=n->gS P E n rd c fl fr ms σ=some r
def iI(P:Program)(E:aE)(fl:Nat)(f:FuncId ⊕ Nat)(args:List PD)(σ:List aB)(p:PD)(σ':List aB):Prop:=∃N,∀n,N<=n->dG P E n fl f args σ=some (p,σ')
theorem Ev.step{c:Code}{N:Nat}(h:∀n,N<=n->gS P E (n+1) rd c fl fr ms σ=some r):Ev P E rd c fl fr ms σ r:=
 ⟨N+1,λn hn=>by obtain⟨m,rfl⟩:∃m,n=m+1:=⟨n-1,ye⟩;exact h m ye⟩
theorem Ev.skip:Ev P E rd .skip fl fr ms σ ⟨.normal,fr,ms,σ⟩:=.step (N:=0) λ_ _=>rfl
theorem Ev.ret:Ev P E rd .ret fl fr ms σ ⟨.ret,fr,ms,σ⟩:=.step (N:=0) λ_ _=>rfl
theorem Ev.exit{id:Nat}:Ev P E rd (.exit id) fl fr ms σ ⟨.exit id,fr,ms,σ⟩:=.step (N:=0) λ_ _=>rfl
theorem Ev.seq{x y:Code}{aQ:Ey}{ms1:List Nat}{σ1:Ex}(h:Ev P E rd x fl fr ms σ ⟨.normal,aQ,ms1,σ1⟩)(k:Ev P E rd y fl aQ ms1 σ1 r):Ev P E rd (.seq x y) fl fr ms σ r:=by
 exact jw
theorem Ev.Y5{x y:Code}(h:Ev P E rd x fl fr ms σ r)(hr:r.x≠.normal):Ev P E rd (.seq x y) fl fr ms σ r:=by
 exact jf
theorem Ev.cond{g:Operand}{x y:Code}{b:Bool}(hg:aX fr g=some (.bool b))(h:Ev P E rd (if b then x else y) fl fr ms σ r):Ev P E rd (.cond g x y) fl fr ms σ r:=by
 obtain⟨N,h⟩:=h;exact .step (N:=N) λn hn=>by
  simp only[gS,hg];cases b<;>exact h n hn
theorem Ev.block{id:Nat}{b:Code}{aQ:Ey}{ms1:List Nat}{σ1:Ex}{k:Nat}(h:Ev P E rd b fl fr ms σ ⟨.exit k,aQ,ms1,σ1⟩):Ev P E rd (.block id b) fl fr ms σ ⟨if k=id then .normal else .exit k,aQ,ms1,σ1⟩:=by
 obtain⟨N,h⟩:=h;exact .step (N:=N) λn hn=>by simp only[gS,h n hn]
theorem Ev.Y6{id:Nat}{b:Code}(h:Ev P E rd b fl fr ms σ r)(hr:∀k,r.x≠.exit k):Ev P E rd (.block id b) fl fr ms σ r:=by
 obtain⟨N,h⟩:=h;exact .step (N:=N) λn hn=>by
  simp only[gS,h n hn];obtain⟨x,a,b,c⟩:=r;cases x<;>first|exact absurd rfl (hr _)|rfl
theorem Ev.loop{b:Code}{aQ:Ey}{ms1:List Nat}{σ1:Ex}(h:Ev P E rd b fl fr ms σ ⟨.normal,aQ,ms1,σ1⟩)(k:Ev P E rd (.loop b) fl aQ ms1 σ1 r):Ev P E rd (.loop b) fl fr ms σ r:=by
 exact jw
theorem Ev.Y7{b:Code}(h:Ev P E rd b fl fr ms σ r)(hr:r.x≠.normal):Ev P E rd (.loop b) fl fr ms σ r:=by
 exact jf
theorem Ev.region{id:Nat}{ops:Fc}{aQ:Ey}{σ1:Ex}{N:Nat}(h:∀n,N<=n->dE P (dG P E n) fl ops ops.toList fr σ=some (aQ,σ1)):Ev P E rd (.region id ops false) fl fr ms σ ⟨.normal,aQ,ms,σ1⟩:=
 .step (N:=N) λn hn=>by
  have:=h n hn;unfold dG at this;simp only[gS,AN,this]
theorem Ev.L4{id:Nat}{ops:Fc}{aQ:Ey}{σ1:Ex}{N:Nat}(h:∀n,N<=n->lB P (dG P E n) fl ops fr σ=some (aQ,σ1)):Ev P E rd (.region id ops true) fl fr ms σ ⟨.normal,aQ,ms,σ1⟩:=
 .step (N:=N) λn hn=>by
  have:=h n hn;unfold dG at this;simp only[gS,this]
theorem Ev.draw{id:Nat}{ops:Fc}{aQ:Ey}{σ1:Ex}{N:Nat}(h:∀n,N<=n->mU P (dG P E n) fl ops fr σ=some (aQ,σ1)):Ev P E rd (.region id ops true) fl fr ms σ ⟨.normal,aQ,ms,σ1⟩:=
 .L4 (N:=N) λn hn=>by unfold lB;rw[h n hn]
theorem iI.body{f:FuncId}{fn:Func}{c:Code}{args:Ey}{p:PD}{σ':Ex}(hE:E f=none)(hf:P.funcs[f]?=some fn)(hb:fn.body=some c)
  (h:Ev P E none c fl (args++List.replicate (fn.ntmps-args.length) (.aP [])) [] σ r) (hr:eF P fl fn r=some (p,σ')):iI P E fl (.inl f) args σ p σ':=by
 obtain⟨N,h⟩:=h;exact⟨N,λn hn=>by simp only[dG,qH,hE,CR,hf,hb,h n hn,hr]⟩
end
def aE.add(E:aE)(f:FuncId)(g:Nat->List PD->List aB->Option (PD×List aB)):aE:=λf'=>if f'=f then some g else E f'
theorem aF.add{P:Program}{E:aE}(hE:aF P E)(hP:P.follows .mixedOrders=true){f:FuncId}{g:Er}
  (h:∀fl args σ p σ',g fl args σ=some (p,σ')->iI P E fl (.inl f) args σ p σ'):aF P (E.add f g):=by
 intro F fl f' g' args c vs p σ' hF hg hgo hs hX hv;unfold aE.add at hg;split at hg
 .rename_i e;subst e;simp only[yAb]at hg;subst hg;obtain⟨N,hN⟩:=h fl args c.σ p σ' hgo;exact(AI hE hP hF N).fn (hN N (yAk _)) hs hX hv
 .exact ew
end
section
def wK(ops:Array Oper)(i:Nat):Bool:=jC ops.toList (bW ops.toList []) i
def lN(P:Program)(call:bY)(fl:Nat)(ops:Array Oper):List (Bool×Oper)->List PD->List aB->Option (List PD×List aB)
 | [],fr,σ=>some (fr,σ)
 |(free,o)::rest,fr,σ=>
  if Region.wanted o (bM ops fr)then
   match free with
   |true=>match bX P call fl fr σ o.op with
    |some (p,σ')=>lN P call fl ops rest (aW fr o.dst p) σ'
    |none=>none
   |false=>match bX P call (max fl σ.length) fr σ o.op with
    |some (p,σ')=>lN P call fl ops rest (aW fr o.dst p) (σ++σ'.drop σ.length)
    |none=>none
  else lN P call fl ops rest (aW fr o.dst (.aP [])) σ
def flags(ops:Array Oper)(i:Nat):List Oper->List (Bool×Oper)
 | []=>[]
 |o::r=>(!cU o.op||wK ops i,o)::flags ops (i+1) r
def EN(ops:Array Oper):Bool:=
 tT ops (bW ops.toList [])&&ops.toList.all (λo=>!cE o.op) &&
 (List.range ops.size).all λk=>!dZ eW ops.toList k||(List.range ops.size).all λi=>!dZ dM ops.toList i||!loose (bW ops.toList []) i k
section
variable{P:Program}{call:bY}{fl:Nat}{ops:Fc}
theorem ZC{fr:Ey}{σ:Ex}{op:Op}(h:dW op=true):cJ P fl fr σ op=none:=by
 cases op<;>first|rfl|(simp[dW]at h;done)|(rename_i s d x;simp only[dW,yBq]at h;simp only[cJ,h,yAx,yAN];done)|skip
 rename_i c;obtain⟨callee,args,ts⟩:=c;cases callee with
 |value f=>simp[dW]at h
 |invoke r m=>simp[dW]at h
 |builtin b=>cases b<;>first|rfl|(simp[dW]at h)
theorem L3{k:Nat}{free:Bool}{fr:Ey}{σ:Ex}{op:Op}(hs:(dW op||dM op||cE op||kY op||dN op)=true)(ha:cE op=false) :
  fL P call fl free k fr σ op=(match (!cU op||free)with
   |true=>bX P call fl fr σ op
   |false=>match bX P call (max fl σ.length) fr σ op with
    |some (p,σ')=>some (p,σ++σ'.drop σ.length)
    |none=>none):=by
 unfold fL
 by_cases hA:dW op=true
 .obtain⟨hpc,_,hW,_⟩:=ZD (fr:=fr) hA;have hM:cU op=false:=by simp[dN]at hW;exact hW.2
  rw[yAJ hA,hM];simp only[yCn,yDl];unfold bX pop;rw[hpc];simp only;cases hp:dL P fr op with
  |some p=>rfl
  |none=>
   simp only;rw[ZC hA]
 .simp only[yCu]at hA;rw[hA,ha];simp only[yAx,yAN]
  by_cases hM:cU op=true
  .rw[hM];cases free with
   |true=>simp
   |false=>
    simp only[yCn,yCo,yAK,yBR,yDH];cases bX P call (max fl σ.length) fr σ op<;>rfl
  .simp only[yCu]at hM;rw[hM];simp only[yAX,yAx,yAN,yCn,yDl];have h3:dM op=true\/kY op=true\/eW op=true:=by
    simp only[hA,ha,dN,hM,yCf,yDH,yBp]at hs;rcases hs with(h|h)|h
    .exact .inl h
    .exact .inr (.inl h)
    .exact .inr (.inr h)
   obtain⟨hv,hp,_⟩:=HS (P:=P) (fr:=fr) h3;unfold bX pop;rw[hp,hv]
theorem Y2(h:EN ops=true)(fr:List PD)(σ:List aB):mU P call fl ops fr σ=lN P call fl ops (flags ops 0 ops.toList) fr σ:=by
 simp only[EN,yAr]at h;obtain⟨⟨hreg,hall⟩,hfeet⟩:=h;have hr:=AM hreg;have hna:∀(l:List Oper),l.all (λo=>!cE o.op)=true->lA P l=some []:=by
  intro l
  induction l with
  |nil=>intro _;rfl
  |cons o l ih=>
   intro hl;simp only[yCl,yAr,yBq]at hl;unfold lA;split
   .rename_i t ht;rw[ht]at hl;simp[cE]at hl
   .exact ih hl.2
 have key:∀(l:List Oper) (i k:Nat) (fr:List PD) (σ:List aB),ops.toList.drop i=l ->
   (match eL P call fl ops (bW ops.toList []) i k l fr σ with|some (_,fr',σ')=>some (fr',σ')|none=>none)=lN P call fl ops (flags ops i l) fr σ:=by
  intro l
  induction l with
  |nil=>intro i k fr σ _;rfl
  |cons o rest ih=>
   intro i k fr σ hdrop;have ho:ops[i]?=some o:=by
    exact vw
   have wU:ops.toList.drop (i+1)=rest:=by rw[<-yBI,hdrop];rfl
   have hal:cE o.op=false:=by
    have:=yAn.1 hall o (yCc.2 (yDC ho));exact bq
   simp only[eL,flags,lN];cases hw:Region.wanted o (bM ops fr)with
   |true=>
    simp only[yAK];rw[L3 (hr.shape i o ho) hal];simp only[wK];cases(!cU o.op||jC ops.toList (bW ops.toList []) i)with
    |true=>
     simp only;cases hp:bX P call fl fr σ o.op with
     |none=>rfl
     |some q=>
      obtain⟨p,σ'⟩:=q;simp only;rw[<-ih (i+1) (if cE o.op=true then k+1 else k) (aW fr o.dst p) σ' wU];cases eL P call fl ops (bW ops.toList []) (i+1) (if cE o.op=true then k+1 else k) rest (aW fr o.dst p) σ'<;>rfl
    |false=>
     simp only;cases hp:bX P call (max fl σ.length) fr σ o.op with
     |none=>rfl
     |some q=>
      obtain⟨p,σ'⟩:=q;simp only;rw[<-ih (i+1) (if cE o.op=true then k+1 else k) (aW fr o.dst p) _ wU];cases eL P call fl ops (bW ops.toList []) (i+1) (if cE o.op=true then k+1 else k) rest (aW fr o.dst p) (σ++σ'.drop σ.length)<;>rfl
   |false=>
    simp only[yAx,yAN];rw[<-ih (i+1) (if cE o.op=true then k+1 else k) (aW fr o.dst (.aP [])) σ wU];cases eL P call fl ops (bW ops.toList []) (i+1) (if cE o.op=true then k+1 else k) rest (aW fr o.dst (.aP [])) σ<;>rfl
 unfold mU;simp only[hreg,yAK,hna _ hall,yAl];rw[<-key ops.toList 0 σ.length fr σ yg];split
 .rename_i tr fr' σ' hops;have hfo:oP ops.toList (bW ops.toList []) tr=true:=by
   simp only[oP,yAn,yAU];simp only[yAn,yAU]at hfeet;intro k hk;have h1:=hfeet k Dy;cases hs:dZ eW ops.toList k with
   |false=>simp
   |true=>
    rw[hs]at h1;simp only[yBR,yCf,yAn,yAU]at h1 ⊢;intro i hi;have h2:=h1 i Dn;simp only[yBp]at h2 ⊢;exact .inl h2
  rw[hfo,hops];rfl
 .rename_i hops;rw[hops]
end
end
def Cx.bare(c:Cx):Cx:={ w:=c.w,ρ:=λ_=>undef,σ:=[],D:=λ_=>False,X:=c.av }
theorem ZA{c:Cx}(hs:Sr c){a:Addr}(h:c.w.heap.size<=a.block):c.av a:=by
 refine⟨hs.fresh a h,λid o hd ho=>?_⟩;have key:∀b,aY (c.ρ id)=some b->a.block≠b:=λb hb e=>by
  have:=hs.lt id b hd hb;omega
 cases o with
 |none=>trivial
 |box p=>exact key
 |own e size n=>intro b hb e;exact absurd e (key b hb)
 |row e size ver ds=>exact key
 |map es=>trivial
 |mark=>trivial
 |loop st fr ps asg bd=>trivial
theorem QR{c:Cx}(a:Addr):c.bare.av a↔c.av a:=⟨λh=>h.1,λh=>⟨h,λ_ _ hd=>hd.elim⟩⟩
theorem ZB{g:Nat}{ds:Ey}(h:xY g=some ds):PD.eJ ds=true:=by
 unfold xY at h;split at h
 .simp only[yAb]at h;subst h;rw[PD.rI];simp only[yAn,yAw]
  rintro x ⟨y,_,rfl⟩
  simp[PD.bI]
 .exact af
theorem Sr.bare{c:Cx}(hs:Sr c):Sr c.bare where
 box:=λ_ _ h=>h.elim
 own:=λ_ _ _ _ h=>h.elim
 row:=λ_ _ _ _ _ h=>h.elim
 map:=λ_ _ h=>h.elim
 mark:=λ_ h=>h.elim
 loop:=λ_ _ _ _ _ _ h=>h.elim
 inj:=λ_ _ _ h=>h.elim
 lt:=λ_ _ h=>h.elim
 bA:=λ_ h=>h.elim
 fresh:=λ_ h=>ZA hs h
 jA:=⟨λg ds e=>(hs.jA.1 g ds e).free (λa v h1 h2=>⟨(QR a).2 h1,h2⟩) (by simpa [PD.bI]using ZB e),λg hh=>⟨(hs.jA.2 g hh).1,λ_ h=>h.elim⟩⟩
theorem aF.x7{P:Program}{E:aE}(hE:aF P E)(hP:P.follows .mixedOrders=true){f:FuncId}{g:List PD->Option PD}
  (h:∀args p,g args=some p->∃p1 σ1,iI P E 0 (.inl f) (args.map PD.strip) [] p1 σ1/\p1.strip=p/\PD.eJ (args.map PD.strip)=true/\p.bI=true) :
  aF P (E.add f (λ_ args σ=>match g args with|some p=>some (p,σ)|none=>none)):=by
 intro F fl f' g' args c vs p σ' hF hg hgo hs hX hv;unfold aE.add at hg;split at hg
 .rename_i e;subst e;simp only[yAb]at hg;subst hg;cases hga:g args with
  |none=>simp only[hga]at hgo;cases hgo
  |some q=>
   simp only[hga,yAb,yAc]at hgo;obtain⟨rfl,rfl⟩:=hgo;obtain⟨p1,σ1,⟨N,hN⟩,e1,e2,e3⟩:=h args q hga;have gR:aS c.bare vs (args.map PD.strip):=hv.strip.free (λa v h1 h2=>⟨(QR a).2 h1,h2⟩) e2;have:=(AI hE hP hF N).fn (c:=c.bare) (hN N (yAk _)) hs.bare (λ_ _ h=>h.elim) gR;refine⟨this.1,λm=>yCE (this.2 m) λe w' he=>?_⟩;cases e with
   |returned v=>
    obtain⟨c1,rfl,rfl,hs1,nx,hvv,_⟩:=he;have hgr:c.w.grownBy c1.w none:=⟨nx.os,nx.tape,nx.output,nx.size,λk hk _=>nx.frame k hk (λ_ h=>h.elim)⟩;refine⟨c.at c1.w,rfl,rfl,hs.grow hgr,Nx.grow hs hgr,?_,λ_ h=>.inl h⟩;have hp:=hvv.strip;rw[e1]at hp;have hav:∀a,c1.av a->(c.at c1.w).av a:=λa h1=>by
     have h3:c1.X a:=h1.1;rw[nx.X]at h3;exact h3
    exact VR.free (c:=c1) (c':=c.at c1.w) (λa _ h1 h2=>⟨hav a h1,h2⟩) hp e3
   |panicked ch=>exact he.elim
   |outgrown=>exact he.elim
 .exact ew
section
structure Em (α:Type) where
 aA:α->PD
 inj:∀ {x y},aA x=aA y->x=y
 str:∀x,(aA x).strip=aA x
 dJ:∀x,(aA x).bI=true
structure bE (α:Type) where
 cells:α->Ey
 len:Nat
 hlen:∀x,(cells x).length=len
 inj:∀ {x y},cells x=cells y->x=y
 str:∀x,(cells x).map PD.strip=cells x
 dJ:∀x,(cells x).all PD.bI=true
section
variable{α β γ δ:Type}
open Classical in
def Em.dec(e:Em α)(p:PD):Option α:=if h:∃x,p.strip=e.aA x then some h.choose else none
theorem Em.cO{e:Em α}{p:PD}{x:α}(h:p.strip=e.aA x):e.dec p=some x:=by
 have hx:∃x,p.strip=e.aA x:=⟨x,h⟩;unfold Em.dec;rw[dif_pos hx];exact yAL some (e.inj (hx.choose_spec.symm.trans h))
theorem Em.mC{e:Em α}{p:PD}{x:α}(h:e.dec p=some x):p.strip=e.aA x:=by
 unfold Em.dec at h;split at h
 .rename_i hx;simp only[yAb]at h;subst h;exact hx.choose_spec
 .cases h
@[simp] theorem Em.Y8{e:Em α}{x:α}:e.dec (e.aA x)=some x:=Em.cO (e.str x)
def Em.int(k:IntKind):Em Int:=⟨PD.int k,λh=>zx,λ_=>Eb,λ_=>by simp[PD.bI]⟩
def Em.bool:Em Bool:=⟨PD.bool,λh=>zx,λ_=>Eb,λ_=>by simp[PD.bI]⟩
def Em.text:Em (List UInt8):=⟨PD.str,λh=>zx,λ_=>Eb,λ_=>by simp[PD.bI]⟩
def Em.unit:Em Unit:=⟨λ_=>.aP [],λ_=>rfl,λ_=>by simp[PD.strip,PD.mF],λ_=>by simp[PD.bI,PD.eJ]⟩
def sz(k:Nat)(xs:List α):Nat:=if xs.length=0 then 0 else k
@[simp] theorem aSG{k:Nat}{xs:List α}:(xs=[]\/k=sz k xs)=True:=by
  cases xs<;>simp[sz]
theorem rE{k:Nat}{xs:List α}(h:xs≠[]):sz k xs=k:=by
 cases xs<;>simp[sz]at *
theorem Y9{f:α->β}(hf:∀x y,f x=f y->x=y):∀(xs ys:List α),xs.map f=ys.map f->xs=ys
 | [],[],_=>rfl
 | [],_::_,h=>Am
 |_::_,[],h=>Am
 |x::xs,y::ys,h=>by
  simp only[yAR,yC]at h;rw[hf x y h.1,Y9 hf xs ys h.2]
def Em.list(e:Em α)(k:Nat):Em (List α) where
 aA:=λxs=>.slice (sz k xs) (xs.map e.aA) .any
 inj:=fun {x y} h=>by
  simp only[PD.slice.injEq,yBn]at h;exact Y9 (λ_ _ h=>e.inj h) x y h.2
 str:=λxs=>by
  rw[PD.rH];have:(xs.map e.aA).map PD.strip=xs.map e.aA:=by
   rw[yBA];exact yAG λx _=>e.str x
  rw[this];cases xs<;>simp[sz]
 dJ:=λxs=>by
  simp only[PD.bI,PD.rI,yDj,List.all_map];exact yAn.2 λx _=>e.dJ x
def Em.rJ(a:Em α)(b:Em β):Em (α×β) where
 aA:=λx=>.aP [a.aA x.1,b.aA x.2]
 inj:=fun {x y} h=>by
  simp only[PD.aP.injEq,yC,yBn]at h;exact yCF (a.inj h.1) (b.inj h.2)
 str:=λx=>by simp[PD.strip,PD.mF,a.str,b.str]
 dJ:=λx=>by simp[PD.bI,PD.eJ,a.dJ,b.dJ]
def Em.aF5(a:Em α)(b:Em β)(c:Em γ):Em (α×β×γ) where
 aA:=λx=>.aP [a.aA x.1,b.aA x.2.1,c.aA x.2.2]
 inj:=fun {x y} h=>by
  simp only[PD.aP.injEq,yC,yBn]at h;exact yCF (a.inj h.1) (yCF (b.inj h.2.1) (c.inj h.2.2))
 str:=λx=>by simp[PD.strip,PD.mF,a.str,b.str,c.str]
 dJ:=λx=>by simp[PD.bI,PD.eJ,a.dJ,b.dJ,c.dJ]
def Em.aF6(a:Em α)(b:Em β)(c:Em γ)(d:Em δ):Em (α×β×γ×δ) where
 aA:=λx=>.aP [a.aA x.1,b.aA x.2.1,c.aA x.2.2.1,d.aA x.2.2.2]
 inj:=fun {x y} h=>by
  simp only[PD.aP.injEq,yC,yBn]at h;exact yCF (a.inj h.1) (yCF (b.inj h.2.1) (yCF (c.inj h.2.2.1) (d.inj h.2.2.2)))
 str:=λx=>by simp[PD.strip,PD.mF,a.str,b.str,c.str,d.str]
 dJ:=λx=>by simp[PD.bI,PD.eJ,a.dJ,b.dJ,c.dJ,d.dJ]
def bE.one(e:Em α):bE α where
 cells:=λx=>[e.aA x]
 len:=1
 hlen:=λ_=>rfl
 inj:=λh=>e.inj zx
 str:=λx=>by simp[e.str]
 dJ:=λx=>by simp[e.dJ]
def bE.pair(a:bE α)(b:bE β):bE (α×β) where
 cells:=λx=>a.cells x.1++b.cells x.2
 len:=a.len+b.len
 hlen:=λ_=>by simp[a.hlen,b.hlen]
 inj:=fun {x y} h=>by
  have:=List.append_inj h (by simp[a.hlen]);exact yCF (a.inj this.1) (b.inj this.2)
 str:=λ_=>by simp only[yAH,a.str,b.str]
 dJ:=λ_=>by simp only[yDG,a.dJ,b.dJ,yCo]
def bE.lM(a:bE β)(f:α->β)(hf:∀x y,f x=f y->x=y):bE α where
 cells:=λx=>a.cells (f x)
 len:=a.len
 hlen:=λx=>a.hlen _
 inj:=λh=>hf _ _ (a.inj h)
 str:=λx=>a.str _
 dJ:=λx=>a.dJ _
def Em.agg(a:bE α):Em α where
 aA:=λx=>.agg (a.cells x)
 inj:=λh=>a.inj zx
 str:=λ_=>by simp only[PD.strip,PD.qI,a.str]
 dJ:=λ_=>by simp only[PD.bI,PD.rI,a.dJ]
def Em.lM(a:Em β)(f:α->β)(hf:∀x y,f x=f y->x=y):Em α where
 aA:=λx=>a.aA (f x)
 inj:=λh=>hf _ _ (a.inj h)
 str:=λx=>a.str _
 dJ:=λx=>a.dJ _
@[simp] theorem aSH{k:IntKind}{n:Int}:(Em.int k).aA n=.int k n:=rfl
@[simp] theorem aSI{b:Bool}:Em.bool.aA b=.bool b:=rfl
@[simp] theorem aSJ{s:Ez}:Em.text.aA s=.str s:=rfl
@[simp] theorem aSK{u:Unit}:Em.unit.aA u=.aP []:=rfl
@[simp] theorem aV{e:Em α}{k:Nat}{xs:List α}:(e.list k).aA xs=.slice (sz k xs) (xs.map e.aA) .any:=rfl
@[simp] theorem aF7{a:Em α}{b:Em β}{x:α×β}:(a.rJ b).aA x=.aP [a.aA x.1,b.aA x.2]:=rfl
@[simp] theorem aSL{a:Em α}{b:Em β}{c:Em γ}{x:α×β×γ}:(a.aF5 b c).aA x=.aP [a.aA x.1,b.aA x.2.1,c.aA x.2.2]:=rfl
@[simp] theorem aSM{a:Em α}{b:Em β}{c:Em γ}{d:Em δ}{x:α×β×γ×δ}:(a.aF6 b c d).aA x=.aP [a.aA x.1,b.aA x.2.1,c.aA x.2.2.1,d.aA x.2.2.2]:=rfl
@[simp] theorem aSN{k:IntKind}{n:Int}:(Em.int k).dec (.int k n)=some n:=Em.cO Eb
open Classical in
def dY(c:Prop)(x:Option α):Option α:=if c then x else none
@[simp] theorem gO{c:Prop}{x:Option α}(h:c):dY c x=x:=yAJ h
theorem gA{c:Prop}{x:Option α}{y:α}(h:dY c x=some y):c/\x=some y:=by
 unfold dY at h;split at h
 .exact⟨‹_›,h⟩
 .cases h
def uV(r:Em β)(F:Option β):List PD->Option PD
 | []=>match F with|some z=>some (r.aA z)|none=>none
 |_=>none
def bZ(a:Em α)(r:Em β)(F:α->Option β):List PD->Option PD
 | [p]=>match a.dec p with
   |some x=>match F x with|some z=>some (r.aA z)|none=>none
   |none=>none
 |_=>none
def eD(a:Em α)(b:Em β)(r:Em γ)(F:α->β->Option γ):List PD->Option PD
 | [p,q]=>match a.dec p,b.dec q with
   |some x,some y=>match F x y with|some z=>some (r.aA z)|none=>none
   |_,_=>none
 |_=>none
def wH(a:Em α)(b:Em β)(c:Em γ)(r:Em δ)(F:α->β->γ->Option δ):List PD->Option PD
 | [p,q,s]=>match a.dec p,b.dec q,c.dec s with
   |some x,some y,some u=>match F x y u with|some z=>some (r.aA z)|none=>none
   |_,_,_=>none
 |_=>none
def entry(g:List PD->Option PD):Nat->List PD->List aB->Option (PD×List aB):=λ_ args σ=>match g args with|some p=>some (p,σ)|none=>none
variable{P:Program}{E:aE}{f:FuncId}
def aI(P:Program)(E:aE)(f:FuncId)(args:List PD)(p:PD):Prop:=∃p1 σ1,iI P E 0 (.inl f) args [] p1 σ1/\p1.strip=p
theorem aF.mV(hE:aF P E)(hP:P.follows .mixedOrders=true){a:Em α}{r:Em β}{F:α->Option β}(h:∀x z,F x=some z->aI P E f [a.aA x] (r.aA z)):aF P (E.add f (entry (bZ a r F))):=by
 refine hE.x7 hP λargs p hg=>?_
 match args,hg with
 | [q],hg=>
   simp only[bZ]at hg;split at hg
   .rename_i x hx;split at hg
    .rename_i z hz;simp only[yAb]at hg;subst hg;obtain⟨p1,σ1,e1,e2⟩:=h x z hz;have:=Em.mC hx;exact⟨p1,σ1,by simpa [this]using e1,e2,by simp[this,PD.eJ,a.dJ],r.dJ z⟩
    .cases hg
   .cases hg
theorem aF.r8(hE:aF P E)(hP:P.follows .mixedOrders=true){a:Em α}{b:Em β}{r:Em γ}{F:α->β->Option γ}(h:∀x y z,F x y=some z->aI P E f [a.aA x,b.aA y] (r.aA z)) :
  aF P (E.add f (entry (eD a b r F))):=by
 refine hE.x7 hP λargs p hg=>?_
 match args,hg with
 | [q,s],hg=>
   simp only[eD]at hg;split at hg
   .rename_i x y hx hy;split at hg
    .rename_i z hz;simp only[yAb]at hg;subst hg;obtain⟨p1,σ1,e1,e2⟩:=h x y z hz;have h1:=Em.mC hx;have h2:=Em.mC hy;exact⟨p1,σ1,by simpa [h1,h2]using e1,e2,by simp[h1,h2,PD.eJ,a.dJ,b.dJ],r.dJ z⟩
    .cases hg
   .cases hg
theorem aF.aF8(hE:aF P E)(hP:P.follows .mixedOrders=true){a:Em α}{b:Em β}{c:Em γ}{r:Em δ}{F:α->β->γ->Option δ}
  (h:∀x y u z,F x y u=some z->aI P E f [a.aA x,b.aA y,c.aA u] (r.aA z)):aF P (E.add f (entry (wH a b c r F))):=by
 refine hE.x7 hP λargs p hg=>?_
 match args,hg with
 | [q,s,t],hg=>
   simp only[wH]at hg;split at hg
   .rename_i x y u hx hy hu;split at hg
    .rename_i z hz;simp only[yAb]at hg;subst hg;obtain⟨p1,σ1,e1,e2⟩:=h x y u z hz;have h1:=Em.mC hx;have h2:=Em.mC hy;have h3:=Em.mC hu;exact⟨p1,σ1,by simpa [h1,h2,h3]using e1,e2,by simp[h1,h2,h3,PD.eJ,a.dJ,b.dJ,c.dJ],r.dJ z⟩
    .cases hg
   .cases hg
end
end
def pap(P:Program)(fl:Nat)(σ:List aB)(t:TypeId)(s x:PD):Option (PD×List aB):=
 match cX P 8 fl σ t s x with
 |some r=>some r
 |none=>fA P fl σ t s x.strip
def rP(P:Program)(t:TypeId)(sz:Nat):Nat->List PD->List aB->Option (PD×List aB):=λfl args σ=>match args with
 | [.slice _ [] _]=>some (.slice 0 [] .full,σ)
 | [.slice (n+1) (x::xs) tok]=>pap P fl σ t (.slice sz [] .full) (.slice (n+1) (x::xs) tok)
 | [.aU id ver off n s]=>pap P fl σ t (.slice sz [] .full) (.aU id ver off n s)
 |_=>none
theorem aNR{c:Cx}{v:Value}{n:Nat}{tok:Tok}(h:VR c v (.slice n [] tok)):VR c v (.slice n [] .iK)\/VR c v (.slice n [] .jF):=by
 obtain⟨A,cap,fl,rfl,a1,a2,a3,a4,a5,a6,a7,a8⟩:=h.nS;cases A with
 |none=>exact .inl (.slice none _ cap n [] .iK fl rfl a1 a2 a3 a4 a5 a6 a7 ⟨_,_,rfl⟩)
 |some a=>exact .inr (.slice (some a) _ cap n [] .jF fl rfl a1 a2 a3 a4 a5 a6 a7 ⟨_,_,_,rfl⟩)
theorem aNS{c:Cx}{v:Value}{n m:Nat}{tok:Tok}(h:VR c v (.slice n [] tok))(ht:∀id,tok≠.own id):VR c v (.slice m [] tok):=by
 obtain⟨A,cap,fl,rfl,a1,a2,a3,a4,a5,a6,a7,a8⟩:=h.nS;have hf:fl=[]:=yAf (by rw[a4];simp);subst hf;refine .slice A _ cap m [] tok [] rfl a1 a2 yg yg a5 a6 a7 ?_;cases tok with
 |own id=>exact absurd rfl (ht id)
 |_=>exact a8
theorem aDL{c:Cx}{v:Value}{p:PD}(h:VR c v p):aS c [v] [p]:=⟨rfl,λi u d h1 h2=>by
 match i with
 |0=>simp at h1 h2;subst h1;subst h2;exact h
 |i+1=>simp at h1⟩
def GH(t:TypeId):Code:=
 .seq (.region 0 #[{ dst:=some 2,op:=Op.assign (Operand.const (Value.slice none 0 0)),type:=t,pos:= "slices.go:355",after:=#[],guard:=none }] false)
  (.seq (.seq (.region 1 #[{ dst:=some 3,op:=Op.move (Operand.tmp 0),type:=t,pos:= "slices.go:357",after:=#[],guard:=none },
        { dst:=some 4,op:=Op.binOp BinOp.eql t (Operand.tmp 3) (Operand.const (Value.slice none 0 0)) t,type:=4,pos:= "slices.go:357",after:=#[{ on:=0,ground:=Ground.data }],guard:=none }] false)
    (.cond (Operand.tmp 4) (.seq (.region 2 #[{ dst:=some 2,op:=Op.assign (Operand.const (Value.slice none 0 0)),type:=t,pos:= "slices.go:358",after:=#[],guard:=none }] false) .ret) .skip))
   (.seq (.region 3 #[{ dst:=some 5,op:=Op.buildSlice t 0 #[],type:=t,pos:= "slices.go:362",after:=#[],guard:=none },
     { dst:=some 6,op:=Op.move (Operand.tmp 0),type:=t,pos:= "slices.go:362",after:=#[],guard:=none },
     { dst:=some 7,op:=Op.call { callee:=Callee.builtin Builtin.append,args:=#[Operand.tmp 5,Operand.tmp 6],argTypes:=#[t,t] },type:=t,pos:= "slices.go:362",after:=#[{ on:=0,ground:=Ground.data },{ on:=1,ground:=Ground.data }],guard:=none },
     { dst:=some 2,op:=Op.assign (Operand.tmp 7),type:=t,pos:= "slices.go:362",after:=#[{ on:=2,ground:=Ground.data },{ on:=2,ground:=Ground.chain },{ on:=0,ground:=Ground.phase },{ on:=1,ground:=Ground.phase },{ on:=2,ground:=Ground.phase }],guard:=none }] false) .ret))
theorem WB{P:Program}{E:aE}{f t sz:Nat}{e:TypeId}{fn:Func}(hE:E f=none)(hf:P.funcs[f]?=some fn)(hb:fn.body=some (GH t))(hn:fn.ntmps=8)(hr:fn.results=#[.tmp 2])(hu:P.underlying t=some (.slice e))
  (hnew:sE P t 0 []=some (.slice sz [] .full)) {fl:Nat} {σ:Ex} {s:PD} {r:PD} {σ1:Ex} (hs:fU s=some false) (ha:pap P fl σ t (.slice sz [] .full) s=some (r,σ1)):dG P E 8 fl (.inl f) [s] σ=some (r,σ1):=by
 have h1:dF P .eql t s (.slice 0 [] .full)=none:=by
  unfold fU at hs;split at hs
  .simp[dF,oL,kJ,hu]
  .simp[dF,oL,kJ,hu]
  .simp[dF,oL,kJ,hu]
  .cases hs
 have h2:AJ P .eql t s (.const (.slice none 0 0))=some (.bool false):=by simp[AJ,hu,hs]
 have hm:cJ P fl [s,.aP [],.slice 0 [] .full,s,.bool false,.slice sz [] .full,s,.aP []] σ (Op.call { callee:=Callee.builtin Builtin.append,args:=#[Operand.tmp 5,Operand.tmp 6],argTypes:=#[t,t] })=some (r,σ1):=by
  unfold pap at ha;simp only[cJ,jT,aX,yEl,List.getD_cons_zero,yAK];exact ha
 have hbs:∀fr,cJ P fl fr σ (Op.buildSlice t 0 #[])=some (.slice sz [] .full,σ):=λfr=>by simp[cJ,pI,hnew]
 simp[dG,qH,hE,CR,hf,hb,hn,hr,GH,gS,AN,dE,Region.wanted,bX,fJ,pop,dL,jE,jT,aX,ofValue,tU,aW,h1,h2,hbs,hm,eF,tX,wS,AK,CO]
theorem aNT{P:Program}{E:aE}{f t:Nat}{e:TypeId}{fn:Func}(hE:E f=none)(hf:P.funcs[f]?=some fn)(hb:fn.body=some (GH t))(hn:fn.ntmps=8)(hr:fn.results=#[.tmp 2])(hu:P.underlying t=some (.slice e))
  {fl:Nat} {σ:Ex} {n:Nat}:dG P E 8 fl (.inl f) [.slice n [] .iK] σ=some (.slice 0 [] .full,σ):=by
 have h1:dF P .eql t (.slice n [] .iK) (.slice 0 [] .full)=none:=by simp[dF,oL,kJ,hu]
 have h2:AJ P .eql t (.slice n [] .iK) (.const (.slice none 0 0))=some (.bool true):=by simp[AJ,hu,fU]
 simp[dG,qH,hE,CR,hf,hb,hn,hr,GH,gS,AN,dE,Region.wanted,bX,fJ,pop,dL,jE,jT,aX,ofValue,tU,aW,h1,h2,eF,tX,wS,AK,CO]
theorem aF.DT{P:Program}{E:aE}(hE:aF P E)(hP:P.follows .mixedOrders=true){f:Nat}(t sz:Nat)(e:TypeId)(DI:E f=none)(hfn:(P.funcs[f]?).map (λfn=>(fn.body,fn.ntmps,fn.results))=some (some (GH t),8,#[.tmp 2]))(hu:P.underlying t=some (.slice e))
  (hnew:sE P t 0 []=some (.slice sz [] .full)) (WC:∀fl σ n,pap P fl σ t (.slice sz [] .full) (.slice n [] .jF)=some (.slice sz [] .full,σ)) :
  aF P (E.add f (rP P t sz)):=by
 obtain⟨fn,hf,hb,hn,hr⟩:∃fn,P.funcs[f]?=some fn/\fn.body=some (GH t)/\fn.ntmps=8/\fn.results=#[.tmp 2]:=by
  cases hx:P.funcs[f]? with
  |none=>rw[hx]at hfn;cases hfn
  |some fn=>
   rw[hx]at hfn;simp only[yAC,yAb,yAc]at hfn;exact⟨fn,rfl,hfn.1,hfn.2.1,hfn.2.2⟩
 intro F fl f' g' args c vs p σ' hF hg hgo hs hX hv;unfold aE.add at hg;split at hg
 .rename_i e;subst e;simp only[yAb]at hg;subst hg;have key:=AI hE hP hF 8;unfold rP at hgo;split at hgo
  .rename_i n tok;simp only[yAb,yAc]at hgo;obtain⟨rfl,rfl⟩:=hgo
   match vs,hv.1 with
   | [v],_=>
     have gR:=hv.2 0 v _ rfl rfl;rcases aNR gR with hn' | hn'
     .exact key.fn (aNT DI hf hb hn hr hu) hs hX (aDL hn')
     .have:=key.fn (WB DI hf hb hn hr hu hnew (by rfl) (WC fl c.σ n)) hs hX (aDL hn');refine⟨this.1,λm=>yCE (this.2 m) λe w' he=>?_⟩;cases e with
      |returned v=>
       obtain⟨c1,q1,q2,q3,q4,q5,q6⟩:=he;exact⟨c1,q1,q2,q3,q4,aNS q5 (λid e=>zu),q6⟩
      |panicked ch=>exact he.elim
      |outgrown=>exact he.elim
  .rename_i n x xs tok;exact key.fn (WB DI hf hb hn hr hu hnew (by simp[fU]) hgo) hs hX hv
  .rename_i id ver off n s;exact key.fn (WB DI hf hb hn hr hu hnew rfl hgo) hs hX hv
  .cases hgo
 .exact ew
section
section
variable{P:Program}{E:aE}{rd:Option Nat}{fl:Nat}{fr:Ey}{ms:List Nat}{σ:Ex}{Q:PO->Prop}
structure Wp (P:Program) (E:aE) (rd:Option Nat) (c:Code) (fl:Nat) (fr:List PD) (ms:List Nat) (σ:List aB) (Q:PO->Prop):Prop where
 ex:∃r,Ev P E rd c fl fr ms σ r/\Q r
def eK(E:aE):bY
 |fl,.inl f,args,σ=>match E f with
  |some g=>g fl args σ
  |none=>none
 |_,.inr _,_,_=>none
theorem QQ{n:Nat}{tg:FuncId ⊕ Nat}{args:Ey}{x:PD×Ex}(h:eK E fl tg args σ=some x):dG P E n fl tg args σ=some x:=by
 cases tg with
 |inl f=>
  simp only[eK]at h;simp only[dG,qH];split at h
  .rename_i g hg;rw[hg];exact h
  .cases h
 |inr id=>cases h
theorem LZ{n:Nat}{op:Op}{x:PD×Ex}(h:bX P (eK E) fl fr σ op=some x):bX P (dG P E n) fl fr σ op=some x:=by
 unfold bX at *;split at h
 .exact QQ h
 .exact h
theorem EK{n:Nat}{ops:Fc}:∀ {l:List Oper} {fr:Ey} {σ:Ex} {x:Ey×Ex},dE P (eK E) fl ops l fr σ=some x->dE P (dG P E n) fl ops l fr σ=some x
 | [],_,_,_,h=>h
 |o::rest,fr,σ,x,h=>by
  simp only[dE]at h ⊢;split at h
  .rename_i hw;rw[yAJ hw];split at h
   .rename_i p σ1 hp;rw[LZ hp];exact EK h
   .cases h
  .rename_i hw;rw[yAI hw];exact EK h
theorem L1{n:Nat}{ops:Fc}:∀ {l:List (Bool×Oper)} {fr:Ey} {σ:Ex} {x:Ey×Ex},lN P (eK E) fl ops l fr σ=some x->lN P (dG P E n) fl ops l fr σ=some x
 | [],_,_,_,h=>h
 |(free,o)::rest,fr,σ,x,h=>by
  simp only[lN]at h ⊢;split at h
  .rename_i hw;rw[yAJ hw];cases free with
   |true=>
    exact mw
   |false=>
    exact mw
  .rename_i hw;rw[yAI hw];exact L1 h
theorem Wp.mono{c:Code}{Q':PO->Prop}(h:Wp P E rd c fl fr ms σ Q)(k:∀r,Q r->Q' r):Wp P E rd c fl fr ms σ Q':=by
 obtain⟨r,h1,h2⟩:=h.ex;exact⟨r,h1,k r h2⟩
theorem Wp.skip(h:Q ⟨.normal,fr,ms,σ⟩):Wp P E rd .skip fl fr ms σ Q:=⟨_,.skip,h⟩
theorem Wp.ret(h:Q ⟨.ret,fr,ms,σ⟩):Wp P E rd .ret fl fr ms σ Q:=⟨_,.ret,h⟩
theorem Wp.exit{id:Nat}(h:Q ⟨.exit id,fr,ms,σ⟩):Wp P E rd (.exit id) fl fr ms σ Q:=⟨_,.exit,h⟩
structure gG (P:Program) (E:aE) (rd:Option Nat) (y:Code) (fl:Nat) (Q:PO->Prop) (r:PO):Prop where
 nx:r.x=.normal->Wp P E rd y fl r.fr r.ms r.σ Q
 out:r.x≠.normal->Q r
theorem Wp.seq{x y:Code}(h:Wp P E rd x fl fr ms σ (gG P E rd y fl Q)):Wp P E rd (.seq x y) fl fr ms σ Q:=by
 obtain⟨⟨x1,aQ,ms1,σ1⟩,h1,h2⟩:=h.ex;cases x1 with
 |normal=>
  obtain⟨r2,h3,h4⟩:=(h2.nx rfl).ex;exact⟨r2,.seq h1 h3,h4⟩
 |ret=>exact⟨_,.Y5 h1 yg,h2.out yg⟩
 |exit k=>exact⟨_,.Y5 h1 yg,h2.out yg⟩
theorem gG.normal{y:Code}(h:Wp P E rd y fl fr ms σ Q):gG P E rd y fl Q ⟨.normal,fr,ms,σ⟩:=⟨λ_=>h,λe=>absurd rfl e⟩
theorem gG.ret{y:Code}(h:Q ⟨.ret,fr,ms,σ⟩):gG P E rd y fl Q ⟨.ret,fr,ms,σ⟩:=⟨λe=>zu,λ_=>h⟩
theorem gG.exit{y:Code}{k:Nat}(h:Q ⟨.exit k,fr,ms,σ⟩):gG P E rd y fl Q ⟨.exit k,fr,ms,σ⟩:=⟨λe=>zu,λ_=>h⟩
theorem Wp.cond{g:Operand}{x y:Code}{b:Bool}(hg:aX fr g=some (.bool b))(h1:b=true->Wp P E rd x fl fr ms σ Q)(h2:b=false->Wp P E rd y fl fr ms σ Q):Wp P E rd (.cond g x y) fl fr ms σ Q:=by
 cases b with
 |true=>obtain⟨r,e1,e2⟩:=(h1 rfl).ex;exact⟨r,.cond hg e1,e2⟩
 |false=>obtain⟨r,e1,e2⟩:=(h2 rfl).ex;exact⟨r,.cond hg e1,e2⟩
theorem Wp.cond_true{g:Operand}{x y:Code}(hg:aX fr g=some (.bool true))(h1:Wp P E rd x fl fr ms σ Q):Wp P E rd (.cond g x y) fl fr ms σ Q:=.cond hg (λ_=>h1) (λh=>yw)
theorem Wp.cond_false{g:Operand}{x y:Code}(hg:aX fr g=some (.bool false))(h1:Wp P E rd y fl fr ms σ Q):Wp P E rd (.cond g x y) fl fr ms σ Q:=.cond hg (λh=>yw) (λ_=>h1)
structure iP (id:Nat) (Q:PO->Prop) (r:PO):Prop where
 out:∀k,r.x=.exit k->Q ⟨if k=id then .normal else .exit k,r.fr,r.ms,r.σ⟩
 on:(∀k,r.x≠.exit k)->Q r
theorem Wp.block{id:Nat}{b:Code}(h:Wp P E rd b fl fr ms σ (iP id Q)):Wp P E rd (.block id b) fl fr ms σ Q:=by
 obtain⟨⟨x1,aQ,ms1,σ1⟩,h1,h2⟩:=h.ex;cases x1 with
 |normal=>exact⟨_,.Y6 h1 yg,h2.on yg⟩
 |ret=>exact⟨_,.Y6 h1 yg,h2.on yg⟩
 |exit k=>exact⟨_,.block h1,h2.out k rfl⟩
theorem iP.normal{id:Nat}(h:Q ⟨.normal,fr,ms,σ⟩):iP id Q ⟨.normal,fr,ms,σ⟩:=⟨λ_ e=>zu,λ_=>h⟩
theorem iP.ret{id:Nat}(h:Q ⟨.ret,fr,ms,σ⟩):iP id Q ⟨.ret,fr,ms,σ⟩:=⟨λ_ e=>zu,λ_=>h⟩
theorem iP.here{id:Nat}(h:Q ⟨.normal,fr,ms,σ⟩):iP id Q ⟨.exit id,fr,ms,σ⟩:=
 ⟨λk e=>by simp only[PX.exit.injEq]at e;subst e;rw[yAJ rfl];exact h,λe=>absurd rfl (e id)⟩
structure mD (P:Program) (E:aE) (rd:Option Nat) (b:Code) (fl:Nat) (Q:PO->Prop) (r:PO):Prop where
 nx:r.x=.normal->Wp P E rd (.loop b) fl r.fr r.ms r.σ Q
 out:r.x≠.normal->Q r
theorem Wp.loop{b:Code}(h:Wp P E rd b fl fr ms σ (mD P E rd b fl Q)):Wp P E rd (.loop b) fl fr ms σ Q:=by
 obtain⟨⟨x1,aQ,ms1,σ1⟩,h1,h2⟩:=h.ex;cases x1 with
 |normal=>
  obtain⟨r2,h3,h4⟩:=(h2.nx rfl).ex;exact⟨r2,.loop h1 h3,h4⟩
 |ret=>exact⟨_,.Y7 h1 yg,h2.out yg⟩
 |exit k=>exact⟨_,.Y7 h1 yg,h2.out yg⟩
theorem mD.normal{b:Code}(h:Wp P E rd (.loop b) fl fr ms σ Q):mD P E rd b fl Q ⟨.normal,fr,ms,σ⟩:=⟨λ_=>h,λe=>absurd rfl e⟩
theorem mD.exit{b:Code}{k:Nat}(h:Q ⟨.exit k,fr,ms,σ⟩):mD P E rd b fl Q ⟨.exit k,fr,ms,σ⟩:=⟨λe=>zu,λ_=>h⟩
theorem Wp.region{id:Nat}{ops:Fc}{aQ:Ey}{σ1:Ex}(h:dE P (eK E) fl ops ops.toList fr σ=some (aQ,σ1))(k:Q ⟨.normal,aQ,ms,σ1⟩):Wp P E rd (.region id ops false) fl fr ms σ Q:=
 ⟨_,.region (N:=0) (λ_ _=>EK h),k⟩
theorem Wp.draw{id:Nat}{ops:Fc}{aQ:Ey}{σ1:Ex}(hs:EN ops=true)(h:lN P (eK E) fl ops (flags ops 0 ops.toList) fr σ=some (aQ,σ1))(k:Q ⟨.normal,aQ,ms,σ1⟩) :
  Wp P E rd (.region id ops true) fl fr ms σ Q:=
 ⟨_,.draw (N:=0) (λ_ _=>by rw[Y2 hs];exact L1 h),k⟩
theorem aI.body{f:FuncId}{fn:Func}{c:Code}{args:Ey}{p:PD}(hE:E f=none)(hf:P.funcs[f]?=some fn)(hb:fn.body=some c)
  (h:Wp P E none c 0 (args++List.replicate (fn.ntmps-args.length) (.aP [])) [] [] (λr=>∃p1 σ1,eF P 0 fn r=some (p1,σ1)/\p1.strip=p)):aI P E f args p:=by
 exact sj
end
theorem wrap_i64{x:Int}(h:-9223372036854775808<=x)(h':x<=9223372036854775807):IntKind.i64.wrap x=x:=by
 simp[IntKind.wrap,IntKind.min,IntKind.max,IntKind.signed,IntKind.bits]
 try omega
theorem wrap_u64:True:=trivial
end
section
attribute [simp] dE lN flags Region.wanted bM bX fJ pop dL oM aX aW jT jE ofValue tU tV cU PD.cells eK pI EP
attribute [simp] PD.plain PD.setCells eC EJ fB eF tX wS AK CO AH LV ER wT HQ CP
attribute [simp] PD.strip PD.mF CM pH HO HN CQ
@[simp] theorem qI{α:Type}{e:Em α}{xs:List α}:PD.mF (xs.map e.aA)=xs.map e.aA:=by
  rw[PD.qI,yBA];exact yAG λx _=>e.str x
@[simp] theorem aRv{α:Type}{e:Em α}{k:Nat}{xs:List α}{tok:Tok}:(PD.slice k (xs.map e.aA) tok).strip=.slice (sz k xs) (xs.map e.aA) .any:=by
  cases xs with
  |nil=>simp[PD.strip,sz]
  |cons x xs=>simp[PD.strip,sz,e.str]
section
variable{P:Program}{t:TypeId}{k k':IntKind}{a b:Int}{op:BinOp}
@[simp] theorem aRw:dF P .add t (.int k a) (.int k' b)=if k=k' then gI .add k a b else none:=rfl
@[simp] theorem aRx:dF P .sub t (.int k a) (.int k' b)=if k=k' then gI .sub k a b else none:=rfl
@[simp] theorem aRy:dF P .mul t (.int k a) (.int k' b)=if k=k' then gI .mul k a b else none:=rfl
@[simp] theorem aRz:dF P .quo t (.int k a) (.int k' b)=if k=k' then gI .quo k a b else none:=rfl
@[simp] theorem aRA:dF P .rem t (.int k a) (.int k' b)=if k=k' then gI .rem k a b else none:=rfl
@[simp] theorem aRB:dF P .eql t (.int k a) (.int k' b)=if k=k' then gI .eql k a b else none:=rfl
@[simp] theorem aRC:dF P .neq t (.int k a) (.int k' b)=if k=k' then gI .neq k a b else none:=rfl
@[simp] theorem aRD:dF P .lss t (.int k a) (.int k' b)=if k=k' then gI .lss k a b else none:=rfl
@[simp] theorem aRE:dF P .leq t (.int k a) (.int k' b)=if k=k' then gI .leq k a b else none:=rfl
@[simp] theorem aRF:dF P .gtr t (.int k a) (.int k' b)=if k=k' then gI .gtr k a b else none:=rfl
@[simp] theorem aRG:dF P .geq t (.int k a) (.int k' b)=if k=k' then gI .geq k a b else none:=rfl
@[simp] theorem aRH:dF P .and t (.int k a) (.int k' b)=if k=k' then gI .and k a b else none:=rfl
@[simp] theorem aRI:dF P .or t (.int k a) (.int k' b)=if k=k' then gI .or k a b else none:=rfl
@[simp] theorem aRJ:dF P .xor t (.int k a) (.int k' b)=if k=k' then gI .xor k a b else none:=rfl
@[simp] theorem aRK:dF P .andNot t (.int k a) (.int k' b)=if k=k' then gI .andNot k a b else none:=rfl
@[simp] theorem aRL:dF P .shl t (.int k a) (.int k' b)=HR .shl k a b:=rfl
@[simp] theorem aRM:dF P .shr t (.int k a) (.int k' b)=HR .shr k a b:=rfl
@[simp] theorem aRN{x y:Ez}:dF P op t (.str x) (.str y)=HQ op x y:=rfl
theorem aF1{x y:PD}{c:Bool}(h1:∀k a k' b,¬(x=.int k a/\y=.int k' b))(h2:∀a b,¬(x=.str a/\y=.str b))(h:kJ P 12 t x y=some c)(h3:∀xs ys,¬(x=.agg xs/\y=.agg ys)):dF P .eql t x y=some (.bool c):=by
 exact cv
theorem aF2{x y:PD}{c:Bool}(h1:∀k a k' b,¬(x=.int k a/\y=.int k' b))(h2:∀a b,¬(x=.str a/\y=.str b))(h:kJ P 12 t x y=some c)(h3:∀xs ys,¬(x=.agg xs/\y=.agg ys)):dF P .neq t x y=some (.bool (!c)):=by
 exact cv
@[simp] theorem aRO{x y:Bool}(hu:P.underlying t=some .bool):dF P .eql t (.bool x) (.bool y)=some (.bool (decide (x=y))):=
  aF1 yg yg Ed yg
@[simp] theorem aRP{x y:Bool}(hu:P.underlying t=some .bool):dF P .neq t (.bool x) (.bool y)=some (.bool (!decide (x=y))):=
  aF2 yg yg Ed yg
section
variable{e:TypeId}{i o:Nat}{cs:Ey}
end
end
section
variable{k:IntKind}{x y:Int}
@[simp] theorem aRQ:gI .add k x y=some (.int k (k.wrap (x+y))):=rfl
@[simp] theorem aRR:gI .sub k x y=some (.int k (k.wrap (x-y))):=rfl
@[simp] theorem aRS:gI .mul k x y=some (.int k (k.wrap (x*y))):=rfl
@[simp] theorem aRT:gI .quo k x y=if y=0 then none else some (.int k (k.wrap (x.tdiv y))):=rfl
@[simp] theorem aRU:gI .rem k x y=if y=0 then none else some (.int k (x.tmod y)):=rfl
@[simp] theorem aRV:gI .eql k x y=some (.bool (decide (x=y))):=rfl
@[simp] theorem aRW:gI .neq k x y=some (.bool (!decide (x=y))):=rfl
@[simp] theorem aRX:gI .lss k x y=some (.bool (decide (x<y))):=rfl
@[simp] theorem aRY:gI .leq k x y=some (.bool (decide (x<=y))):=rfl
@[simp] theorem aRZ:gI .gtr k x y=some (.bool (decide (x > y))):=rfl
@[simp] theorem aR0:gI .geq k x y=some (.bool (decide (x >= y))):=rfl
@[simp] theorem aR1:gI .and k x y=(match AL .and k x y with|some z=>some (.int k z)|none=>none):=rfl
@[simp] theorem aR2:gI .or k x y=(match AL .or k x y with|some z=>some (.int k z)|none=>none):=rfl
@[simp] theorem aR3:gI .xor k x y=(match AL .xor k x y with|some z=>some (.int k z)|none=>none):=rfl
@[simp] theorem aR4:gI .andNot k x y=(match AL .andNot k x y with|some z=>some (.int k z)|none=>none):=rfl
end
section
variable{P:Program}{fl:Nat}{fr:Ey}{σ:Ex}
@[simp] theorem aR5{t:TypeId}{x:Operand}:cJ P fl fr σ (.load t x)=(match aX fr x with
  |some a=>(match oM P σ t a with|some p=>some (p,σ)|none=>none)
  |none=>none):=rfl
@[simp] theorem aR6{t:TypeId}{x y:Operand}:cJ P fl fr σ (.store t x y)=(match aX fr x,aX fr y with
  |some a,some p=>(match pH P fl σ t a p with|some σ'=>some (.aP [],σ')|none=>none)
  |_,_=>none):=rfl
@[simp] theorem aR7{t:TypeId}{x:Operand}:cJ P fl fr σ (.box t x)=(match aX fr x with
  |some p=>if p.cells.all PD.plain then some (.ptr σ.length 0,σ++[.box p])else none
  |none=>none):=rfl
@[simp] theorem aR8{t:TypeId}{cs:Ey}:boxed t (.agg cs)=if LW t=true then .typed t (cs.map u5)else .agg cs:=rfl
@[simp] theorem aR9:u5 (.slice 0 [] .full)=.slice 0 [] .nil:=rfl
@[simp] theorem aSa:u5 .fV=.fV:=rfl
@[simp] theorem aSb{k:IntKind}{n:Int}:u5 (.int k n)=.int k n:=rfl
@[simp] theorem aSc{s:Ez}:u5 (.str s)=.str s:=rfl
@[simp] theorem aSd{t:TypeId}{k:IntKind}{n:Int}:boxed t (.int k n)=.int k n:=rfl
@[simp] theorem aSe{t:TypeId}{b:Bool}:boxed t (.bool b)=.bool b:=rfl
@[simp] theorem aSf{t:TypeId}{s:Ez}:boxed t (.str s)=.str s:=rfl
@[simp] theorem aSg{t:TypeId}{n:Nat}{xs:Ey}{tok:Tok}:boxed t (.slice n xs tok)=.slice n xs tok:=rfl
@[simp] theorem aSh{t:TypeId}:boxed t .fV=.fV:=rfl
@[simp] theorem aSi{t:TypeId}:boxed t .iB=.iB:=rfl
@[simp] theorem aSj{t:TypeId}{v:Value}:boxed t (.fF v)=.fF v:=rfl
@[simp] theorem aSk{t:TypeId}:cJ P fl fr σ (.alloc t)=(match eE P t with
  |some p=>if p.cells.all PD.plain then some (.ptr σ.length 0,σ++[.box (boxed t p)])else none
  |none=>none):=rfl
@[simp] theorem aSl{t:TypeId}{len:Nat}{parts:Array (Nat×Operand)}:cJ P fl fr σ (.buildSlice t len parts)=(match pI fr parts.toList with
  |some ps=>(match sE P t len (ps.map λq=>(q.1,q.2.strip))with|some p=>some (p,σ)|none=>none)
  |none=>none):=rfl
@[simp] theorem aSm{args:Array Operand}{ts:Array TypeId}:cJ P fl fr σ (.call { callee:=.builtin .append,args:=args,argTypes:=ts })=(match jT fr args.toList,ts.toList with
  |some [s,x],[t,t']=>if t=t' then(match cX P fr.length fl σ t s x with|some r=>some r|none=>fA P fl σ t s x.strip)else(match P.underlying t',x with
   |some .string,.str l=>if LX P t=true then(fA P fl σ t s (.slice (if l.length=0 then 0 else 1) (l.map λb=>.int .u8 b.toNat) .any))else none
   |some (.int .i64),.int .i64 m=>ES P fr.length σ t s m
   |_,_=>none)
  |_,_=>none):=rfl
def oN(n:Nat):PD->Int->Option PD
 |.slice size xs _,i=>if 0<=i then(if (xs.length=0\/n=size)/\0<n then(match xs[i.toNat]? with|some p=>some (.eB p.cells 0)|none=>none)else none)else none
 |.cV id off m size,i=>if 0<=i then(if n=size/\i.toNat<m then some (.ptr id (off+i.toNat*n))else none)else none
 |.aU id ver off m size,i=>if 0<=i then(if n=size/\i.toNat<m then some (.dH id ver (off+i.toNat*n))else none)else none
 |_,_=>none
def QM(len n:Nat)(x:PD)(i:Int):Option PD:=
 if 0<=i then(if i.toNat<len then(match x with
  |.ptr id off=>some (.ptr id (off+i.toNat*n))
  |.eB cs off=>some (.eB cs (off+i.toNat*n))
  |.dH id ver off=>some (.dH id ver (off+i.toNat*n))
  |_=>none)else none)else none
@[simp] theorem aSn{t:TypeId}{x:PD}{k:IntKind}{i:Int}:nP P t x (.int k i)=(match P.underlying t with
  |some (.array len e)=>(match bT P e with|some n=>QM len n x i|none=>none)
  |some (.slice e)=>(match bT P e with|some n=>oN n x i|none=>none)
  |_=>none):=by
  unfold nP
  by_cases h0:0<=i
  .cases hu:P.underlying t with
   |none=>simp[h0]
   |some d=>
    cases d<;>simp only[fK,h0,yAK,QM]<;>try rfl
    rename_i e;cases bT P e<;>cases x<;>simp only[oN,h0,yAK]<;>rfl
  .cases hu:P.underlying t with
   |none=>simp[h0]
   |some d=>
    cases d<;>simp only[fK,h0,yAN,QM]<;>try rfl
    all_goals (rename_i e;cases bT P e<;>cases x<;>simp only[oN,h0,yAN])
@[simp] theorem aSo{n size:Nat}{xs:Ey}{tok:Tok}{i:Int}(h0:0<=i)(hn0:0<n)(hs:xs=[]\/n=size)(hi:i.toNat<xs.length):oN n (.slice size xs tok) i=some (.eB xs[i.toNat].cells 0):=by
  have hx:xs.length=0\/n=size:=hs.imp (λh=>Ah) (λh=>h);simp only[oN,h0,hx,hn0,yBx,yAK,yAh hi]
@[simp] theorem aSp{n id off m:Nat}{i:Int}(h0:0<=i)(hi:i.toNat<m):oN n (.cV id off m n) i=some (.ptr id (off+i.toNat*n)):=by
  simp only[oN,h0,hi,yBx,yAK]
def LY(s:List UInt8)(i:Int):Option PD:=if 0<=i then(match s[i.toNat]? with|some b=>some (.int .u8 b.toNat)|none=>none)else none
@[simp] theorem aSq{s:Ez}{i:Int}(h0:0<=i)(hi:i.toNat<s.length):LY s i=some (.int .u8 s[i.toNat].toNat):=by
  unfold LY;rw[yAJ h0,yAh hi]
@[simp] theorem aSr{t:TypeId}{s:Ez}{k:IntKind}{i:Int}:yJ P t (.str s) (.int k i)=(match P.underlying t with
  |some .string=>LY s i
  |_=>none):=by
  unfold yJ LY
  by_cases h0:0<=i
  .cases hu:P.underlying t with
   |none=>simp[h0]
   |some d=>cases d<;>simp only[fK,h0,yAK]<;>rfl
  .cases hu:P.underlying t with
   |none=>simp[h0]
   |some d=>cases d<;>simp only[fK,h0,yAN]<;>try rfl
@[simp] theorem aSs{t:TypeId}{cs:Ey}{k:IntKind}{i:Int}:yJ P t (.agg cs) (.int k i)=(match P.underlying t with
  |some (.array len e)=>(match bT P e with
   |some n=>if 0<=i then(if i.toNat<len then mT P e cs (i.toNat*n)else none)else none
   |none=>none)
  |_=>none):=by
  unfold yJ
  by_cases h0:0<=i
  .cases hu:P.underlying t with
   |none=>simp[fK,h0]
   |some d=>cases d<;>simp only[fK,h0,yAK]<;>rfl
  .cases hu:P.underlying t with
   |none=>simp[fK,h0]
   |some d=>
    cases d<;>simp only[fK,h0,yAN]<;>try rfl
    cases bT P _<;>rfl
@[simp] theorem aSt{k:IntKind}{i:Int}(h:0<=i):fK (some (.int k i))=some i.toNat:=by simp only[fK,h,yAK]
def ET(n l h:Nat):Option (Nat×Nat):=if l<=h/\h<=n then some (l,h)else none
@[simp] theorem aSu{n l h:Nat}(h1:l<=h)(h2:h<=n):ET n l h=some (l,h):=by simp[ET,h1,h2]
@[simp] theorem aSv{n:Nat}{x:Option PD}:kK n none (some x)=(match fK x with|some h=>ET n 0 h|none=>none):=by
  simp only[kK,ET];cases fK x<;>rfl
@[simp] theorem aSw{n:Nat}{x y:Option PD}:kK n (some x) (some y)=(match fK y,fK x with|some h,some l=>ET n l h|_,_=>none):=by
  simp only[kK,ET];cases fK x<;>cases fK y<;>rfl
def EU(n size:Nat)(xs:List PD)(tok:Tok)(lh:Option (Nat×Nat)):Option PD:=
 match lh with
 |some (l,h)=>if xs.length=0\/n=size then some (.slice size ((xs.drop l).take (h-l))
      (if h=xs.length then(match tok with|.full=>.full|.own id=>if l=0 then .own id else .any|_=>.any)else .any))else none
 |none=>none
def QN(s:List UInt8)(lh:Option (Nat×Nat)):Option PD:=
 match lh with
 |some (l,h)=>some (.str ((s.drop l).take (h-l)))
 |none=>none
@[simp] theorem aSx{n size l h:Nat}{xs:Ey}(hs:xs=[]\/n=size):EU n size xs .any (some (l,h))=some (.slice size ((xs.drop l).take (h-l)) .any):=by
  have hx:xs.length=0\/n=size:=hs.imp (λh=>Ah) (λh=>h);simp only[EU,hx,yAK,ite_self]
@[simp] theorem aSy{s:Ez}{l h:Nat}:QN s (some (l,h))=some (.str ((s.drop l).take (h-l))):=rfl
@[simp] theorem aSz{t:TypeId}{s:Ez}{lo hi:Option (Option PD)}:jY P t (.str s) lo hi none=(match P.underlying t with
  |some .string=>QN s (kK s.length lo hi)
  |_=>none):=by
  unfold jY QN;cases hu:P.underlying t with
  |none=>rfl
  |some d=>cases d<;>simp only[Option.isSome_none,yAx,yAN]<;>rfl
@[simp] theorem aSA{t:TypeId}{size:Nat}{xs:Ey}{tok:Tok}{lo hi:Option (Option PD)}:jY P t (.slice size xs tok) lo hi none=(match P.underlying t with
  |some (.slice e)=>(match bT P e with|some n=>EU n size xs tok (kK xs.length lo hi)|none=>none)
  |_=>none):=by
  unfold jY EU;cases hu:P.underlying t with
  |none=>rfl
  |some d=>
   cases d<;>simp only<;>try rfl
   cases bT P _<;>simp only
   cases kK xs.length lo hi<;>simp only
   split<;>rfl
@[simp] theorem aSB{t:TypeId}{id off m size:Nat}{lo hi:Option (Option PD)}:jY P t (.cV id off m size) lo hi none=(match P.underlying t with
  |some (.slice e)=>(match bT P e with|some n=>(match kK m lo hi with|some (l,h)=>if n=size/\(l=0\/l<m)then some (.cV id (off+l*n) (h-l) n)else none|none=>none)|none=>none)
  |_=>none):=by
  unfold jY;cases hu:P.underlying t with
  |none=>rfl
  |some d=>
   cases d<;>simp only<;>try rfl
   cases bT P _<;>simp only
   cases kK m lo hi<;>simp only
end
section
variable{α:Type}
def St(B:List aB)(e:TypeId)(k n:Nat):List aB:=B++(if n=0 then []else [.own e k n])
def iQ(id n:Nat):Tok:=if n=0 then .full else .own id
@[simp] theorem QO{B:Ex}{e:TypeId}{k n i:Nat}(h:i<B.length):(St B e k n)[i]?=B[i]?:=by
  unfold St;rw[yAg h]
@[simp] theorem aSC{B:Ex}{e:TypeId}{k n i:Nat}{o:aB}(h:i<B.length):(St B e k n).set i o=St (B.set i o) e k n:=by
  unfold St;rw[yDZ _ _ h]
@[simp] theorem aSD{B:Ex}{e:TypeId}{k:Nat}:St B e k 0=B:=by simp[St]
@[simp] theorem aSE{id:Nat}:iQ id 0=.full:=rfl
theorem aF3{P:Program}{fl:Nat}{B:Ex}{t e:TypeId}{i:TypeInfo}{z:Value}{n s:Nat}{xs:Ey}{p:PD}{tk:Tok}(hu:P.underlying t=some (.slice e))(hi:P.info? e=some i)(hz:i.zero=some z)(hzs:z.cells.size=i.size)
  (h0:0<i.size) (hs:xs=[]\/s=i.size) (hn:xs.length=n) (hfl:fl<=B.length) (hm:xs.length+1<=maxLen) (hb:(xs.length+1)*i.bytes<=140737488355328) :
  fA P fl (St B e i.size n) t (.slice s xs (iQ B.length n)) (.slice i.size [p] tk)=some (.slice i.size (xs++[p]) (iQ B.length (n+1)),St B e i.size (n+1)):=by
 subst hn;have hs':xs.length=0\/s=i.size:=hs.imp (λh=>Ah) (λh=>h);have h1:[p].length=1:=rfl;simp only[fA,hu,hi,hz,h1,hs',h0,hzs,hm,hb,yBZ,yBx,yAK,yDD,yAN];cases xs with
 |nil=>simp[iQ,St]
 |cons x xs=>
  have hs2:s=i.size:=by simpa using hs
  subst hs2;simp[iQ,St,hfl]
def fT(P:Program)(e:TypeId):Option (Nat×Nat):=match P.info? e with
 |some i=>match i.zero with
  |some z=>if z.cells.size=i.size/\0<i.size then some (i.size,i.bytes)else none
  |none=>none
 |none=>none
theorem aF4{P:Program}{fl:Nat}{B:Ex}{t e:TypeId}{k b n s id:Nat}{xs:Ey}{p:PD}{tk:Tok}(hu:P.underlying t=some (.slice e))(hi:fT P e=some (k,b))
  (hs:xs=[]\/s=k) (hn:xs.length=n) (hid:id=B.length) (hfl:fl<=B.length) (hm:xs.length+1<=maxLen) (hb:(xs.length+1)*b<=140737488355328) :
  fA P fl (St B e k n) t (.slice s xs (iQ id n)) (.slice k [p] tk)=some (.slice k (xs++[p]) (iQ id (n+1)),St B e k (n+1)):=by
 unfold fT at hi;split at hi
 .rename_i i h1;split at hi
  .rename_i z h2;split at hi
   .rename_i h3;simp only[yAb,yAc]at hi;obtain⟨rfl,rfl⟩:=hi;subst hid;exact aF3 hu h1 h2 h3.1 h3.2 hs hn hfl hm hb
   .cases hi
  .cases hi
 .cases hi
attribute [simp] mT
def QP(P:Program)(e:TypeId)(k n:Nat):Prop:=match fT P e with
 |some (k',b)=>k'=k/\n*b<=140737488355328
 |none=>False
attribute [simp] QP
@[simp] theorem aSF{P:Program}{fl:Nat}{B:Ex}{t e:TypeId}{k n s id:Nat}{xs:Ey}{p:PD}{tk:Tok}(hu:P.underlying t=some (.slice e))(hi:QP P e k (xs.length+1))
  (hs:xs=[]\/s=k) (hn:n=xs.length) (hid:id=B.length) (hfl:fl<=B.length) (hm:xs.length+1<=100000000000000) :
  fA P fl (St B e k n) t (.slice s xs (iQ id n)) (.slice k [p] tk)=some (.slice k (xs++[p]) (iQ id (n+1)),St B e k (n+1)):=by
  unfold QP at hi;split at hi
  .rename_i k' b h1;obtain⟨rfl,h2⟩:=hi;exact aF4 hu h1 hs hn.symm hid hfl zi h2
  .cases hi
attribute [simp] sE
end
end
section
section
variable{P:Program}{E:aE}{rd:Option Nat}{fl:Nat}{fr:Ey}{ms:List Nat}{σ:Ex}{Q:PO->Prop}{ops:Fc}
structure aL (P:Program) (E:aE) (fl:Nat) (f:FuncId ⊕ Nat) (args:List PD) (σ:List aB) (R:PD->List aB->Prop):Prop where
 ex:∃p σ',iI P E fl f args σ p σ'/\R p σ'
theorem aL.mono{f:FuncId ⊕ Nat}{args:Ey}{R R':PD->List aB->Prop}(h:aL P E fl f args σ R)(k:∀p σ',R p σ'->R' p σ'):aL P E fl f args σ R':=by
 obtain⟨p,σ',h1,h2⟩:=h.ex;exact⟨p,σ',h1,k _ _ h2⟩
theorem aL.of{f:FuncId ⊕ Nat}{args:Ey}{R:PD->List aB->Prop}{p:PD}{σ':Ex}(h:iI P E fl f args σ p σ')(k:R p σ'):aL P E fl f args σ R:=⟨p,σ',h,k⟩
structure LQ (P:Program) (E:aE) (fl:Nat) (ops:Array Oper) (l:List (Bool×Oper)) (fr:List PD) (σ:List aB) (R:List PD->List aB->Prop):Prop where
 ex:∃N fr' σ',(∀n,N<=n->lN P (dG P E n) fl ops l fr σ=some (fr',σ'))/\R fr' σ'
theorem LP{call:bY}:∀(l:List Oper) (fr:List PD) (σ:List aB),dE P call fl ops l fr σ=lN P call fl ops (l.map λo=>(true,o)) fr σ
 | [],_,_=>rfl
 |o::l,fr,σ=>by
  simp only[dE,lN,yAR];split
  .cases bX P call fl fr σ o.op with
   |none=>rfl
   |some q=>obtain⟨p,σ'⟩:=q;simp only;exact LP l _ _
  .exact LP l _ _
theorem Wp.aFV{id:Nat}(h:LQ P E fl ops (ops.toList.map λo=>(true,o)) fr σ (λfr' σ'=>Q ⟨.normal,fr',ms,σ'⟩)):Wp P E rd (.region id ops false) fl fr ms σ Q:=by
 obtain⟨N,fr',σ',h1,h2⟩:=h.ex;exact⟨_,.region (N:=N) (λn hn=>by rw[LP];exact h1 n hn),h2⟩
theorem aL.round{id:Nat}{args:Ey}{R:PD->List aB->Prop}{fE:Ey}{ps:List Tmp}{assign body:Code}(hfl:fl<=id)(h0:σ[id]?=some (.loop .ready fE ps assign body))(hl:args.length=ps.length)
  (h:Wp P E (some id) assign fl (tQ fE ps args) [] σ (λr=>r.x=.normal/\∃aQ QI QJ QK,r.σ[id]?=some (.loop .ready aQ QI QJ QK) /\
   Wp P E (some id) body fl r.fr r.ms (r.σ.set id (.loop .busy aQ QI QJ QK)) (λr2=>∃wO uZ wP wQ,r2.σ[id]?=some (.loop .busy wO uZ wP wQ) /\
    (match r2.x with
     |.normal=>R (.bool true) (r2.σ.set id (.loop .ready wO uZ wP wQ))
     |.ret=>R (.bool false) (r2.σ.set id (.loop (.done .ret) wO uZ wP wQ))
     |.exit k=>R (.bool false) (r2.σ.set id (.loop (.done (.exit k)) wO uZ wP wQ)))))):aL P E fl (.inr id) args σ R:=by
 obtain⟨⟨x1,f1,m1,s1⟩,⟨N,h1⟩,h2,aQ,QI,QJ,QK,h3,h4⟩:=h.ex;simp only at h2 h3 h4;subst h2;obtain⟨⟨x2,f2,m2,s2⟩,⟨M,h5⟩,wO,uZ,wP,wQ,h6,h7⟩:=h4.ex;simp only at h6 h7;cases x2<;>refine⟨_,_,⟨max N M,λn hn=>?_⟩,h7⟩<;>simp only[dG,qH,EL,hfl,yAK,h0,hl,h1 n ye,h3,h5 n ye,h6]
inductive pJ (P:Program) (E:aE) (fl id:Nat) (K:List aB->Prop):List (List PD)->List aB->List aB->Prop
 |nil {σ:Ex}:K σ->pJ P E fl id K [] σ σ
 |more {a:Ey} {rest:Eu} {σ σ1 σ2:Ex}:K σ->iI P E fl (.inr id) a σ (.bool true) σ1->pJ P E fl id K rest σ1 σ2->pJ P E fl id K (a::rest) σ σ2
 |stop {a:Ey} {rest:Eu} {σ σ1:Ex}:K σ->iI P E fl (.inr id) a σ (.bool false) σ1->pJ P E fl id K (a::rest) σ σ1
structure sF (P:Program) (E:aE) (fl id:Nat) (K:List aB->Prop) (items:List (List PD)) (σ:List aB) (R:List aB->Prop):Prop where
 ex:∃σ2,pJ P E fl id K items σ σ2/\R σ2
theorem sF.nil{id:Nat}{K R:List aB->Prop}(h:K σ)(k:R σ):sF P E fl id K [] σ R:=⟨σ,.nil h,k⟩
theorem sF.cons{id:Nat}{K R:List aB->Prop}{a:Ey}{rest:Eu}(h:K σ)(k:aL P E fl (.inr id) a σ (λp σ1=>(p=.bool true/\sF P E fl id K rest σ1 R)\/(p=.bool false/\R σ1))):sF P E fl id K (a::rest) σ R:=by
 obtain⟨p,σ1,h1,h2⟩:=k.ex;rcases h2 with⟨rfl,h2⟩ | ⟨rfl,h2⟩
 .obtain⟨σ2,h3,h4⟩:=h2.ex;exact⟨σ2,.more h h1 h3,h4⟩
 .exact⟨σ1,.stop h h1,h2⟩
def Iter(P:Program)(E:aE)(gf:FuncId)(cap:List PD)(K:List aB->Prop)(items:List (List PD)):Prop:=
 ∀fl id σ σ2,pJ P E fl id K items σ σ2->∃q,iI P E fl (.inl gf) (.yield id::cap) σ q σ2
theorem Wp.rangeFunc{g:Operand}{ps:Array Tmp}{assign body:Code}{gf:FuncId}{cap:Ey}{K:List aB->Prop}{items:Eu}(hg:aX fr g=some (.func gf cap))(hfl:fl<=σ.length)(hit:Iter P E gf cap K items)
  (h:sF P E fl (σ.length+1) K items (σ++[.mark]++[.loop .ready fr ps.toList assign body]) (λσ2=>∃r,wL (σ.length+1) fr (σ.length::ms) σ2=some r/\Q r)) :
  Wp P E none (.rangeFunc g ps assign body) fl fr ms σ Q:=by
 obtain⟨σ2,h1,r,h2,h3⟩:=h.ex;obtain⟨q,N,h4⟩:=hit _ _ _ _ h1;refine⟨r,.step (N:=N) λn hn=>?_,h3⟩;have:=h4 n hn;unfold dG at this;simp only[gS,hg,EM,hfl,yAK,this];exact h2
theorem aL.body{f:FuncId}{fn:Func}{c:Code}{args:Ey}{R:PD->List aB->Prop}(hE:E f=none)(hf:P.funcs[f]?=some fn)(hb:fn.body=some c)
  (h:Wp P E none c fl (args++List.replicate (fn.ntmps-args.length) (.aP [])) [] σ (λr=>∃p1 σ1,eF P fl fn r=some (p1,σ1)/\R p1 σ1)):aL P E fl (.inl f) args σ R:=by
 exact sj
end
def LR(ops:Array Oper):Bool:=(flags ops 0 ops.toList).all λx=>x.1
theorem QL{P:Program}{call:bY}{fl:Nat}{ops:Fc}:∀(l:List (Bool×Oper)) (fr:List PD) (σ:List aB),l.all (λx=>x.1)=true->lN P call fl ops l fr σ=dE P call fl ops (l.map Prod.snd) fr σ
 | [],_,_,_=>rfl
 |(free,o)::l,fr,σ,h=>by
  simp only[yCl,yAr]at h;obtain⟨h1,h2⟩:=h;subst h1;simp only[dE,lN,yAR];split
  .cases bX P call fl fr σ o.op with
   |none=>rfl
   |some q=>obtain⟨p,σ'⟩:=q;simp only;exact QL l _ _ h2
  .exact QL l _ _ h2
theorem Y1(ops:Array Oper):∀(l:List Oper) (i:Nat),(flags ops i l).map Prod.snd=l
 | [],_=>rfl
 |o::l,i=>by simp only[flags,yAR,Y1 ops l (i+1)]
theorem aFY{P:Program}{call:bY}{fl:Nat}{ops:Fc}(hs:(EN ops&&LR ops)=true)(fr:List PD)(σ:List aB):mU P call fl ops fr σ=dE P call fl ops ops.toList fr σ:=by
 simp only[yAr]at hs;rw[Y2 hs.1,QL _ _ _ hs.2,Y1]
def aH(E:aE):Prop:=∀f g args p,E f=some g->g 0 args []=some (p,[])->∀fl σ,g fl args σ=some (p,σ)
def kX(E:aE):bY
 |_,.inl f,args,σ=>match E f with
  |some g=>match g 0 args []with
   |some (p,[])=>some (p,σ)
   |_=>none
  |none=>none
 |_,.inr _,_,_=>none
def yF(ops:Array Oper):Bool:=ops.toList.all λo=>match o.op with
 |.box ..=>false
 |.call { callee:=.builtin .append,.. }=>false
 |.call { callee:=.builtin .copy,.. }=>false
 |_=>true
theorem LF{P:Program}{E:aE}(hU:aH E){fl dT:Nat}{fr:Ey}{σ:Ex}{op:Op}{x:PD×Ex}(hop:(match op with
 |.box ..=>false
 |.call { callee:=.builtin .append,.. }=>false
 |.call { callee:=.builtin .copy,.. }=>false
 |_=>true)=true) (hm:cU op=true) (h:bX P (kX E) fl fr σ op=some x):bX P (eK E) dT fr σ op=some x/\x.2=σ:=by
 unfold bX at *;cases hc:fJ fr op with
 |some q=>
  obtain⟨tg,args⟩:=q;simp only[hc]at h ⊢;cases tg with
  |inr id=>cases h
  |inl f=>
   simp only[kX]at h;split at h
   .rename_i g hg;split at h
    .rename_i p hp;simp only[yAb]at h;subst h;simp only[eK,hg];exact⟨hU f g args p hg hp dT σ,by trivial⟩
    .cases h
   .cases h
 |none=>
  exact dw
theorem Y3{P:Program}{call call':bY}{fl:Nat}{fr:Ey}{σ:Ex}{op:Op}(hm:cU op=false):bX P call fl fr σ op=bX P call' fl fr σ op:=by
 unfold bX;have:fJ fr op=none:=by
  cases op with
  |call c=>
   obtain⟨callee,args,ts⟩:=c;cases callee with
   |value f=>simp[cU]at hm
   |invoke r m=>rfl
   |builtin b=>rfl
  |_=>rfl
 rw[this]
theorem HP{P:Program}{E:aE}(hU:aH E){fl:Nat}{ops:Fc}:∀(l:List Oper) (i:Nat) (fr:List PD) (σ:List aB) (x:Ey×List aB),l.all (λo=>match o.op with
 |.box ..=>false
 |.call { callee:=.builtin .append,.. }=>false
 |.call { callee:=.builtin .copy,.. }=>false
 |_=>true)=true->dE P (kX E) fl ops l fr σ=some x->lN P (eK E) fl ops (flags ops i l) fr σ=some x
 | [],_,_,_,_,_,h=>h
 |o::l,i,fr,σ,x,ho,h=>by
  simp only[yCl,yAr]at ho;simp only[dE]at h;simp only[flags,lN];split at h
  .rename_i hw;rw[yAJ hw];split at h
   .rename_i p σ1 hp;cases hm:cU o.op with
    |false=>
     rw[Y3 (call':=eK E) hm]at hp;simp only[yCn,yDl,hp];exact mb
    |true=>
     cases wK ops i with
     |true=>
      have:=(LF hU (dT:=fl) ho.1 hm hp).1;simp only[Bool.or_true,this];exact mb
     |false=>
      obtain⟨e1,e2⟩:=LF hU (dT:=max fl σ.length) ho.1 hm hp;simp only at e2;subst e2;simp only[yBR,Bool.or_self,e1,yCm,yAl];exact mb
   .cases h
  .rename_i hw;rw[yAI hw];exact mb
theorem aH.entry{E:aE}(hU:aH E){f:FuncId}{g:List PD->Option PD}:aH (E.add f (entry g)):=by
 intro f' g' args p hE h fl σ;unfold aE.add at hE;split at hE
 .simp only[yAb]at hE;subst hE;unfold Go.Kz.entry at h ⊢;cases hg:g args with
  |none=>simp only[hg]at h;cases h
  |some q=>
   simp only[hg,yAb,yAc,yBn]at h;subst h;rfl
 .exact hU f' g' args p hE h fl σ
theorem aH.none:aH (λ_=>Option.none):=λ_ _ _ _ h=>yw
theorem aH.other{E:aE}(hU:aH E){f:FuncId}{g:Er}(hg:∀args p,g 0 args []≠some (p,[])):aH (E.add f g):=by
 intro f' g' args p hE h fl σ;unfold aE.add at hE;split at hE
 .simp only[yAb]at hE;subst hE;exact absurd h (hg _ _)
 .exact hU f' g' args p hE h fl σ
def force{α:Type}(n:Nat)(f:Nat->α):α:=match n with|0=>f 0|k+1=>f (k+1)
theorem force_eq{α:Type}(n:Nat)(f:Nat->α):force n f=f n:=by cases n<;>rfl
def LU{α:Type}:List Nat->Nat->(List Nat->α)->α
 | [],m,f=>f [m]
 |x::xs,m,f=>LU xs m λys=>f (x::ys)
theorem Y4{α:Type}:∀(l:List Nat) (m:Nat) (f:List Nat->α),LU l m f=f (l++[m])
 | [],_,_=>rfl
 |x::xs,m,f=>by rw[LU,Y4 xs];rfl
def r9{α:Type}:List Oper->List Nat->(List Nat->α)->α
 | [],acc,f=>f acc
 |o::r,acc,f=>force (wR acc o) λm=>LU acc m λacc'=>r9 r acc' f
theorem oE{α:Type}:∀(l:List Oper) (acc:List Nat) (f:List Nat->α),r9 l acc f=f (bW l acc)
 | [],_,_=>rfl
 |o::r,acc,f=>by rw[r9,force_eq,Y4,oE r];rfl
def tO(ops:Array Oper):Bool:=r9 ops.toList [] λms=>
 tT ops ms&&ops.toList.all (λo=>!cE o.op) &&
 (List.range ops.size).all λk=>!dZ eW ops.toList k||(List.range ops.size).all λi=>!dZ dM ops.toList i||!loose ms i k
theorem LG(ops:Array Oper):tO ops=EN ops:=by rw[tO,oE];rfl
def EI(ops:Array Oper):Bool:=r9 ops.toList [] λms=>
 (List.range ops.size).all λi=>!dZ cU ops.toList i||jC ops.toList ms i
theorem aFZ{ops:Fc}(h:EI ops=true):LR ops=true:=by
 rw[EI,oE]at h;simp only[yAn,yAU,yBp,yBq]at h;unfold LR;have key:∀(l:List Oper) (i:Nat),ops.toList.drop i=l->(flags ops i l).all (λx=>x.1)=true:=by
  intro l
  induction l with
  |nil=>intro _ _;rfl
  |cons o r ih=>
   intro i hd;have ho:ops.toList[i]?=some o:=by
    exact vn
   have hd':ops.toList.drop (i+1)=r:=Dp;have hi:i<ops.size:=by
    have:=(yA.1 ho).1;exact bq
   simp only[flags,yCl,yAr,yBp,yBq];refine⟨?_,ih (i+1) hd'⟩;have:=h i hi;rw[dZ,ho]at this;simpa [wK]using this
 exact key _ 0 yg
theorem aF0{ops:Fc}(h:(tO ops&&EI ops)=true):(EN ops&&LR ops)=true:=by
 simp only[yAr,LG]at h ⊢;exact⟨h.1,aFZ h.2⟩
section
variable{P:Program}{E:aE}{rd:Option Nat}{fl:Nat}{fr:Ey}{ms:List Nat}{σ:Ex}{Q:PO->Prop}{ops:Fc}
theorem Wp.CE{id:Nat}{aQ:Ey}{σ1:Ex}(hs:(tO ops&&EI ops)=true)(h:dE P (eK E) fl ops ops.toList fr σ=some (aQ,σ1))(k:Q ⟨.normal,aQ,ms,σ1⟩):Wp P E rd (.region id ops true) fl fr ms σ Q:=
 ⟨_,.draw (N:=0) (λ_ _=>by rw[aFY (aF0 hs)];exact EK h),k⟩
theorem Wp.AD{id:Nat}{aQ:Ey}{σ1:Ex}(hU:aH E)(hs:(tO ops&&yF ops)=true)(h:dE P (kX E) fl ops ops.toList fr σ=some (aQ,σ1))(k:Q ⟨.normal,aQ,ms,σ1⟩):Wp P E rd (.region id ops true) fl fr ms σ Q:=by
 simp only[yAr,LG]at hs;exact .draw hs.1 (HP hU _ 0 _ _ _ hs.2 h) k
end
attribute [simp] wL tQ kX
end
section
def tn{n:Nat}(b:BitVec n):Int:=(b.toNat:Int)
def Em.aFW:Em (BitVec 64):=(Em.int .u64).lM tn (λ_ _ h=>yDY Cn)
def Em.aFX:Em (BitVec 16):=(Em.int .u16).lM tn (λ_ _ h=>yDY Cn)
def Em.bv8:Em (BitVec 8):=(Em.int .u8).lM tn (λ_ _ h=>yDY Cn)
@[simp] theorem aRs{b:BitVec 64}:Em.aFW.aA b=.int .u64 (tn b):=rfl
@[simp] theorem aRt{b:BitVec 16}:Em.aFX.aA b=.int .u16 (tn b):=rfl
@[simp] theorem aRu{b:BitVec 8}:Em.bv8.aA b=.int .u8 (tn b):=rfl
section
variable{a b:BitVec 64}
end
end
section
structure SQ (P:Program) (call:bY) (fl:Nat) (ops:Array Oper) (l:List Oper) (fr:List PD) (σ:List aB) (K:List PD->List aB->Prop):Prop where
 ex:∃fr' σ',dE P call fl ops l fr σ=some (fr',σ')/\K fr' σ'
def lk:List PD->Nat->Option PD
 | [],_=>none
 |x::_,0=>some x
 |_::xs,n+1=>lk xs n
def bV(fr:List PD):Operand->Option PD
 |.tmp t=>lk fr t
 |.const v=>ofValue v
 |.func f=>some (.func f [])
 |.global g=>match xY g with
   |some ds=>some (.eB ds 0)
   |none=>none
def yH(fr:List PD):List Operand->Option (List PD)
 | []=>some []
 |x::xs=>match bV fr x,yH fr xs with
  |some p,some ps=>some (p::ps)
  |_,_=>none
def yK(fr:List PD):List (Nat×Operand)->Option (List (Nat×PD))
 | []=>some []
 |(i,x)::r=>match bV fr x,yK fr r with
  |some p,some ps=>some ((i,p)::ps)
  |_,_=>none
def yI(fr:List PD):Option Operand->Option (Option (Option PD))
 |none=>some none
 |some x=>match bV fr x with
  |some p=>some (some (some p))
  |none=>none
theorem LN:∀(fr:List PD) (t:Nat),lk fr t=fr[t]?
 | [],_=>by simp[lk]
 |_::_,0=>by simp[lk]
 |_::xs,n+1=>by simp[lk,LN xs n]
theorem eA{fr:Ey}{x:Operand}{p:PD}(h:bV fr x=some p):aX fr x=some p:=by
 cases x with
 |tmp t=>
  simp only[bV,LN]at h;simp only[aX,yAA,h,yDk]
 |_=>exact h
theorem LO{fr:Ey}:∀ {xs:List Operand} {ps:Ey},yH fr xs=some ps->jT fr xs=some ps
 | [],_,h=>h
 |x::xs,ps,h=>by
  simp only[yH]at h;split at h
  .rename_i p qs h1 h2;simp only[jT,eA h1,LO h2];exact h
  .cases h
theorem HM{fr:Ey}:∀ {xs:List (Nat×Operand)} {ps:List (Nat×PD)},yK fr xs=some ps->pI fr xs=some ps
 | [],_,h=>h
 |(i,x)::xs,ps,h=>by
  simp only[yK]at h;split at h
  .rename_i p qs h1 h2;simp only[pI,eA h1,HM h2];exact h
  .cases h
theorem QF{fr:Ey}{x:Option Operand}{p:Option (Option PD)}(h:yI fr x=some p):x.map (aX fr)=p:=by
 cases x with
 |none=>simpa [yI]using h
 |some x=>
  simp only[yI]at h;split at h
  .rename_i q hq;simp only[yAb]at h;subst h;show some (aX fr x)=_
   rw[eA hq]
  .cases h
section
variable{P:Program}{E:aE}{call:bY}{rd:Option Nat}{fl:Nat}{fr aQ:Ey}{ms:List Nat}{σ σ1:Ex}{Q:PO->Prop}{ops:Fc}{K:List PD->List aB->Prop}{l:List Oper}{dst:Option Tmp}
 {ty:TypeId} {pos:String} {edges:Array Edge} {guard:Option (Nat×Bool)} {t:TypeId} {x y:Operand} {p q r:PD}
theorem SQ.nil(h:K fr σ):SQ P call fl ops [] fr σ K:=⟨fr,σ,rfl,h⟩
theorem SQ.step{o:Oper}(hw:Region.wanted o (bM ops fr)=true)(h:bX P call fl fr σ o.op=some (p,σ1))(k:SQ P call fl ops l (aW fr o.dst p) σ1 K):SQ P call fl ops (o::l) fr σ K:=by
 obtain⟨fr',σ',h1,h2⟩:=k.ex;exact⟨fr',σ',by simp only[dE,hw,yAK,h,h1],h2⟩
theorem SQ.pass{o:Oper}(hw:Region.wanted o (bM ops fr)=false)(hf:aW fr o.dst (.aP [])=aQ)(k:SQ P call fl ops l aQ σ K):SQ P call fl ops (o::l) fr σ K:=by
 subst hf;obtain⟨fr',σ',h1,h2⟩:=k.ex;exact⟨fr',σ',by simp only[dE,hw,yAx,yAN,h1],h2⟩
theorem qF{op:Op}(hc:fJ fr op=none)(h:dL P fr op=some p):bX P call fl fr σ op=some (p,σ):=by
 unfold bX pop;rw[hc,h]
theorem wM{op:Op}(hc:fJ fr op=none)(hv:dL P fr op=none)(h:cJ P fl fr σ op=some (p,σ1)):bX P call fl fr σ op=some (p,σ1):=by
 unfold bX pop;rw[hc];simp only[hv];exact h
theorem SQ.move(hw:Region.wanted ⟨dst,.move x,ty,pos,edges,guard⟩ (bM ops fr)=true)(hx:bV fr x=some p)(hf:aW fr dst p=aQ)(k:SQ P call fl ops l aQ σ K):SQ P call fl ops (⟨dst,.move x,ty,pos,edges,guard⟩::l) fr σ K:=
 .step hw (qF rfl (eA hx)) (hf▸k)
theorem SQ.assign(hw:Region.wanted ⟨dst,.assign x,ty,pos,edges,guard⟩ (bM ops fr)=true)(hx:bV fr x=some p)(hf:aW fr dst p=aQ)(k:SQ P call fl ops l aQ σ K):SQ P call fl ops (⟨dst,.assign x,ty,pos,edges,guard⟩::l) fr σ K:=
 .step hw (qF rfl (eA hx)) (hf▸k)
theorem SQ.pick{c:Operand}{b:Bool}(hw:Region.wanted ⟨dst,.pick c x y,ty,pos,edges,guard⟩ (bM ops fr)=true)(hc:bV fr c=some (.bool b))(hx:cond b (bV fr x) (bV fr y)=some p)(hf:aW fr dst p=aQ)(k:SQ P call fl ops l aQ σ K) :
  SQ P call fl ops (⟨dst,.pick c x y,ty,pos,edges,guard⟩::l) fr σ K:=
 .step hw (qF rfl (by simp only[dL,eA hc];cases b<;>exact eA hx)) (hf▸k)
theorem SQ.binOp{op:BinOp}{u:TypeId}(hw:Region.wanted ⟨dst,.binOp op t x y u,ty,pos,edges,guard⟩ (bM ops fr)=true)(hx:bV fr x=some p)(hy:bV fr y=some q)(hr:dF P op t p q=some r)(hf:aW fr dst r=aQ)(k:SQ P call fl ops l aQ σ K) :
  SQ P call fl ops (⟨dst,.binOp op t x y u,ty,pos,edges,guard⟩::l) fr σ K:=
 .step hw (qF rfl Cz) (hf▸k)
theorem aFU{op:BinOp}{e:TypeId}{b:Bool}{u:TypeId}(hx:bV fr x=some p)(hu:P.underlying t=some (.slice e))(hb:fU p=some b)(ho:op=.eql\/op=.neq) :
  dL P fr (.binOp op t x (.const (.slice none 0 0)) u)=some (.bool (if op=.eql then b else !b)):=by
 have hy:aX fr (.const (.slice none 0 0))=some (.slice 0 [] .full):=rfl;simp only[dL,eA hx,hy];have hn:dF P op t p (.slice 0 [] .full)=none:=by
  unfold fU at hb;rcases ho with rfl|rfl
  all_goals
   split at hb
   .simp[dF,oL,kJ,hu]
   .simp[dF,oL,kJ,hu]
   .simp[dF,oL,kJ,hu]
   .cases hb
 rw[hn];rcases ho with rfl|rfl<;>simp[AJ,hu,hb]
theorem SQ.uW{e:TypeId}{b:Bool}{u:TypeId}(hw:Region.wanted ⟨dst,.binOp .eql t x (.const (.slice none 0 0)) u,ty,pos,edges,guard⟩ (bM ops fr)=true)(hx:bV fr x=some p)(hu:P.underlying t=some (.slice e))(hb:fU p=some b)(hf:aW fr dst (.bool b)=aQ)(k:SQ P call fl ops l aQ σ K) :
  SQ P call fl ops (⟨dst,.binOp .eql t x (.const (.slice none 0 0)) u,ty,pos,edges,guard⟩::l) fr σ K:=
 .step hw (qF rfl (aFU hx hu hb (.inl rfl))) (hf▸k)
theorem SQ.make{e:TypeId}{k1 k2:IntKind}{a b:Int}(hw:Region.wanted ⟨dst,.makeSlice t x y,ty,pos,edges,guard⟩ (bM ops fr)=true)(hx:bV fr x=some (.int k1 a))(hy:bV fr y=some (.int k2 b))(hu:P.underlying t=some (.slice e))(ha:0<=a/\0<=b)
  (hr:sA P σ t e a.toNat b.toNat=some (r,σ1)) (hf:aW fr dst r=aQ) (k:SQ P call fl ops l aQ σ1 K):SQ P call fl ops (⟨dst,.makeSlice t x y,ty,pos,edges,guard⟩::l) fr σ K:=
 .step hw (wM rfl rfl (by simp only[cJ,eA hx,eA hy,hu,fK,ha.1,ha.2,yAK,hr])) (hf▸k)
theorem SQ.unOp{op:UnOp}(hw:Region.wanted ⟨dst,.unOp op t x,ty,pos,edges,guard⟩ (bM ops fr)=true)(hx:bV fr x=some p)(hr:EJ op p=some r)(hf:aW fr dst r=aQ)(k:SQ P call fl ops l aQ σ K) :
  SQ P call fl ops (⟨dst,.unOp op t x,ty,pos,edges,guard⟩::l) fr σ K:=
 .step hw (qF rfl Dz) (hf▸k)
def LM(P:Program)(u t:TypeId)(p:PD):Option PD:=if CN u t=true then HN P u t p else HO P u t p
attribute [simp] LM
theorem SQ.convert{u:TypeId}(hw:Region.wanted ⟨dst,.convert u t x,ty,pos,edges,guard⟩ (bM ops fr)=true)(hx:bV fr x=some p)(hr:LM P u t p=some r)(hf:aW fr dst r=aQ)(k:SQ P call fl ops l aQ σ K) :
  SQ P call fl ops (⟨dst,.convert u t x,ty,pos,edges,guard⟩::l) fr σ K:=
 .step hw (by
  unfold LM at hr;unfold bX pop;simp only[fJ,dL,eA hx];split at hr
  .rename_i hc;rw[yAJ hc];simp only[cJ,eA hx,hr];rw[yAJ hc]
  .rename_i hc;rw[yAI hc,hr]) (hf▸k)
theorem SQ.makeFunc{f:FuncId}{cap:Array Operand}{cs:Ey}(hw:Region.wanted ⟨dst,.makeFunc (.func f) #[] cap,ty,pos,edges,guard⟩ (bM ops fr)=true)(hx:yH fr cap.toList=some cs)(hf:aW fr dst (.func f cs)=aQ)(k:SQ P call fl ops l aQ σ K) :
  SQ P call fl ops (⟨dst,.makeFunc (.func f) #[] cap,ty,pos,edges,guard⟩::l) fr σ K:=
 .step hw (qF rfl (by simp[dL,LO hx])) (hf▸k)
theorem SQ.slice{lo hi mx:Option Operand}{lo' hi' HK:Option (Option PD)}(hw:Region.wanted ⟨dst,.slice t x lo hi mx,ty,pos,edges,guard⟩ (bM ops fr)=true)(hx:bV fr x=some p)(h1:yI fr lo=some lo')(h2:yI fr hi=some hi')(h3:yI fr mx=some HK)
  (hr:jY P t p lo' hi' HK=some r) (hf:aW fr dst r=aQ) (k:SQ P call fl ops l aQ σ K):SQ P call fl ops (⟨dst,.slice t x lo hi mx,ty,pos,edges,guard⟩::l) fr σ K:=by
 exact .step hw (qF rfl (by simp only[dL,eA hx,QF h1,QF h2,QF h3,hr])) (hf▸k)
theorem SQ.fieldAddr{f:Nat}(hw:Region.wanted ⟨dst,.fieldAddr t x f,ty,pos,edges,guard⟩ (bM ops fr)=true)(hx:bV fr x=some p)(hr:AH P t p f=some r)(hf:aW fr dst r=aQ)(k:SQ P call fl ops l aQ σ K) :
  SQ P call fl ops (⟨dst,.fieldAddr t x f,ty,pos,edges,guard⟩::l) fr σ K:=
 .step hw (qF rfl Dz) (hf▸k)
theorem SQ.indexAddr(hw:Region.wanted ⟨dst,.indexAddr t x y,ty,pos,edges,guard⟩ (bM ops fr)=true)(hx:bV fr x=some p)(hy:bV fr y=some q)(hr:nP P t p q=some r)(hf:aW fr dst r=aQ)(k:SQ P call fl ops l aQ σ K) :
  SQ P call fl ops (⟨dst,.indexAddr t x y,ty,pos,edges,guard⟩::l) fr σ K:=
 .step hw (qF rfl Cz) (hf▸k)
theorem SQ.index(hw:Region.wanted ⟨dst,.index t x y,ty,pos,edges,guard⟩ (bM ops fr)=true)(hx:bV fr x=some p)(hy:bV fr y=some q)(hr:yJ P t p q=some r)(hf:aW fr dst r=aQ)(k:SQ P call fl ops l aQ σ K) :
  SQ P call fl ops (⟨dst,.index t x y,ty,pos,edges,guard⟩::l) fr σ K:=
 .step hw (qF rfl Cz) (hf▸k)
theorem SQ.extract{i:Nat}{vs:Ey}(hw:Region.wanted ⟨dst,.extract x i,ty,pos,edges,guard⟩ (bM ops fr)=true)(hx:bV fr x=some (.aP vs))(hr:vs[i]?=some r)(hf:aW fr dst r=aQ)(k:SQ P call fl ops l aQ σ K) :
  SQ P call fl ops (⟨dst,.extract x i,ty,pos,edges,guard⟩::l) fr σ K:=
 .step hw (qF rfl Dz) (hf▸k)
theorem SQ.build{parts:Array (Nat×Operand)}{ps:List (Nat×PD)}(hw:Region.wanted ⟨dst,.build t parts,ty,pos,edges,guard⟩ (bM ops fr)=true)(hx:yK fr parts.toList=some ps)(hr:CM P t ps=some r)(hf:aW fr dst r=aQ)(k:SQ P call fl ops l aQ σ K) :
  SQ P call fl ops (⟨dst,.build t parts,ty,pos,edges,guard⟩::l) fr σ K:=
 .step hw (qF rfl (by simp only[dL,HM hx,hr])) (hf▸k)
theorem SQ.builtin{b:Builtin}{args:Array Operand}{ts:Array TypeId}{ps:Ey}(hw:Region.wanted ⟨dst,.call { callee:=.builtin b,args:=args,argTypes:=ts },ty,pos,edges,guard⟩ (bM ops fr)=true)(hx:yH fr args.toList=some ps)(hr:jE P b ts ps=some r)
  (hf:aW fr dst r=aQ) (k:SQ P call fl ops l aQ σ K):SQ P call fl ops (⟨dst,.call { callee:=.builtin b,args:=args,argTypes:=ts },ty,pos,edges,guard⟩::l) fr σ K:=
 .step hw (qF rfl (by simp only[dL,LO hx,hr])) (hf▸k)
theorem SQ.load(hw:Region.wanted ⟨dst,.load t x,ty,pos,edges,guard⟩ (bM ops fr)=true)(hx:bV fr x=some p)(hr:oM P σ t p=some r)(hf:aW fr dst r=aQ)(k:SQ P call fl ops l aQ σ K):SQ P call fl ops (⟨dst,.load t x,ty,pos,edges,guard⟩::l) fr σ K:=
 .step hw (wM rfl rfl (by simp only[cJ,eA hx,hr])) (hf▸k)
theorem SQ.store(hw:Region.wanted ⟨dst,.store t x y,ty,pos,edges,guard⟩ (bM ops fr)=true)(hx:bV fr x=some p)(hy:bV fr y=some q)(hr:pH P fl σ t p q=some σ1)(hf:aW fr dst (.aP [])=aQ)(k:SQ P call fl ops l aQ σ1 K) :
  SQ P call fl ops (⟨dst,.store t x y,ty,pos,edges,guard⟩::l) fr σ K:=
 .step hw (wM rfl rfl (by simp only[cJ,eA hx,eA hy,hr])) (hf▸k)
theorem SQ.alloc{p':PD}(hw:Region.wanted ⟨dst,.alloc t,ty,pos,edges,guard⟩ (bM ops fr)=true)(hx:eE P t=some p)(hp:p.cells.all PD.plain=true)(hb:boxed t p=p')(hr:σ++[.box p']=σ1){n:Nat}(hn:σ.length=n)(hf:aW fr dst (.ptr n 0)=aQ)(k:SQ P call fl ops l aQ σ1 K) :
  SQ P call fl ops (⟨dst,.alloc t,ty,pos,edges,guard⟩::l) fr σ K:=by
 subst hb hr hn;exact .step hw (wM rfl rfl (by simp only[cJ,hx,hp,yAK])) (hf▸k)
theorem SQ.box(hw:Region.wanted ⟨dst,.box t x,ty,pos,edges,guard⟩ (bM ops fr)=true)(hx:bV fr x=some p)(hp:p.cells.all PD.plain=true)(hr:σ++[.box p]=σ1){n:Nat}(hn:σ.length=n)(hf:aW fr dst (.ptr n 0)=aQ)(k:SQ P call fl ops l aQ σ1 K) :
  SQ P call fl ops (⟨dst,.box t x,ty,pos,edges,guard⟩::l) fr σ K:=by
 subst hr hn;exact .step hw (wM rfl rfl (by simp only[cJ,eA hx,hp,yAK])) (hf▸k)
theorem SQ.buildSlice{len:Nat}{parts:Array (Nat×Operand)}{ps:List (Nat×PD)}(hw:Region.wanted ⟨dst,.buildSlice t len parts,ty,pos,edges,guard⟩ (bM ops fr)=true)(hx:yK fr parts.toList=some ps)(hr:sE P t len (ps.map λq=>(q.1,q.2.strip))=some r)
  (hf:aW fr dst r=aQ) (k:SQ P call fl ops l aQ σ K):SQ P call fl ops (⟨dst,.buildSlice t len parts,ty,pos,edges,guard⟩::l) fr σ K:=
 .step hw (wM rfl rfl (by simp only[cJ,HM hx,hr])) (hf▸k)
theorem SQ.append(hw:Region.wanted ⟨dst,.call { callee:=.builtin .append,args:=#[x,y],argTypes:=#[t,t] },ty,pos,edges,guard⟩ (bM ops fr)=true)(hx:bV fr x=some p)(hy:bV fr y=some q)
  (hr:(if gH t fr.length=true then cX P fr.length fl σ t p q else fA P fl σ t p q.strip)=some (r,σ1)) (hf:aW fr dst r=aQ) (k:SQ P call fl ops l aQ σ1 K):SQ P call fl ops (⟨dst,.call { callee:=.builtin .append,args:=#[x,y],argTypes:=#[t,t] },ty,pos,edges,guard⟩::l) fr σ K:=by
 refine .step hw (wM rfl ?_ ?_) (hf▸k)
 .simp only[dL,jT,eA hx,eA hy,jE]
 .simp only[cJ,jT,eA hx,eA hy,yAK]
  by_cases hm:gH t fr.length=true
  .rw[yAJ hm]at hr;rw[hr]
  .rw[yAI hm]at hr;have:cX P fr.length fl σ t p q=none:=by unfold cX;rw[yAI hm]
   rw[this];exact hr
theorem SQ.uX{g:Operand}{args:Array Operand}{ts:Array TypeId}{f:FuncId}{cap ps:Ey}(hw:Region.wanted ⟨dst,.call { callee:=.value g,args:=args,argTypes:=ts },ty,pos,edges,guard⟩ (bM ops fr)=true)(hg:bV fr g=some (.func f cap))
  (hx:yH fr args.toList=some ps) (hr:call fl (.inl f) (ps++cap) σ=some (r,σ1)) (hf:aW fr dst r=aQ) (k:SQ P call fl ops l aQ σ1 K):SQ P call fl ops (⟨dst,.call { callee:=.value g,args:=args,argTypes:=ts },ty,pos,edges,guard⟩::l) fr σ K:=by
 refine .step hw ?_ (hf▸k);simp only[bX,fJ,eA hg,LO hx,hr]
theorem aI.qG{f:FuncId}{fn:Func}{c:Code}{args fr:Ey}{p:PD}(hE:E f=none)(hf:P.funcs[f]?=some fn)(hb:fn.body=some c)(hfr:args++List.replicate (fn.ntmps-args.length) (.aP [])=fr)
  (h:Wp P E none c 0 fr [] [] (λr=>∃p1 σ1,eF P 0 fn r=some (p1,σ1)/\p1.strip=p)):aI P E f args p:=by
 subst hfr;exact aI.body hE hf hb h
theorem aL.qG{f:FuncId}{fn:Func}{c:Code}{args:Ey}{R:PD->List aB->Prop}(hE:E f=none)(hf:P.funcs[f]?=some fn)(hb:fn.body=some c)(hfr:args++List.replicate (fn.ntmps-args.length) (.aP [])=fr)
  (h:Wp P E none c fl fr [] σ (λr=>∃p1 σ1,eF P fl fn r=some (p1,σ1)/\R p1 σ1)):aL P E fl (.inl f) args σ R:=by
 subst hfr;exact aL.body hE hf hb h
theorem aI.aN{f:FuncId}{fn:Func}{c:Code}{args fr:Ey}{p:PD}(n:Nat)(hE:E f=none)(hf:P.funcs[f]?=some fn)(hb:fn.body=some c:=by rfl)(hn:fn.ntmps=n:=by rfl)(hfr:args++List.replicate (n-args.length) (.aP [])=fr:=by(simp[List.replicate];rfl))
  (h:Wp P E none c 0 fr [] [] (λr=>∃p1 σ1,eF P 0 fn r=some (p1,σ1)/\p1.strip=p)):aI P E f args p:=by
 subst hn;exact aI.qG hE hf hb hfr h
theorem aL.aN{f:FuncId}{fn:Func}{c:Code}{args fr:Ey}{R:PD->List aB->Prop}(n:Nat)(hE:E f=none)(hf:P.funcs[f]?=some fn)(hb:fn.body=some c:=by rfl)(hn:fn.ntmps=n:=by rfl)(hfr:args++List.replicate (n-args.length) (.aP [])=fr:=by(simp[List.replicate];rfl))
  (h:Wp P E none c fl fr [] σ (λr=>∃p1 σ1,eF P fl fn r=some (p1,σ1)/\R p1 σ1)):aL P E fl (.inl f) args σ R:=by
 subst hn;exact aL.qG hE hf hb hfr h
theorem Wp.mE{id:Nat}(h:SQ P (eK E) fl ops ops.toList fr σ (λfr' σ'=>Q ⟨.normal,fr',ms,σ'⟩)):Wp P E rd (.region id ops false) fl fr ms σ Q:=by
 obtain⟨fr',σ',h1,h2⟩:=h.ex;exact .region h1 h2
theorem Wp.aFQ{id:Nat}(hU:aH E)(hs:(tO ops&&yF ops)=true)(h:SQ P (kX E) fl ops ops.toList fr σ (λfr' σ'=>Q ⟨.normal,fr',ms,σ'⟩)):Wp P E rd (.region id ops true) fl fr ms σ Q:=by
 obtain⟨fr',σ',h1,h2⟩:=h.ex;exact .AD hU hs h1 h2
theorem Wp.aFR{id:Nat}(hs:(tO ops&&EI ops)=true)(h:SQ P (eK E) fl ops ops.toList fr σ (λfr' σ'=>Q ⟨.normal,fr',ms,σ'⟩)):Wp P E rd (.region id ops true) fl fr ms σ Q:=by
 obtain⟨fr',σ',h1,h2⟩:=h.ex;exact .CE hs h1 h2
theorem Wp.QG(k:Nat){id:Nat}{o:Oper}{rest:List Oper}(hk:ops.toList=ops.toList.take k++o::rest)(h:SQ P (eK E) fl ops (ops.toList.take k) fr σ (λaQ σ1=>Region.wanted o (bM ops aQ)=true/\∃tg args,fJ aQ o.op=some (tg,args) /\
   aL P E fl tg args σ1 (λp σ2=>∃wN,aW aQ o.dst p=wN/\SQ P (eK E) fl ops rest wN σ2 (λfr' σ'=>Q ⟨.normal,fr',ms,σ'⟩)))):Wp P E rd (.region id ops false) fl fr ms σ Q:=by
 obtain⟨aQ,σ1,h1,hw,tg,args,hc,h2⟩:=h.ex;obtain⟨p,σ2,⟨N,h3⟩,wN,uY,h4⟩:=h2.ex;subst uY;obtain⟨fr',σ',h5,h6⟩:=h4.ex;refine .aFV ⟨N,fr',σ',λn hn=>?_,h6⟩;rw[<-LP,hk];have e:∀(l l':List Oper) (fr:List PD) (σ:List aB),dE P (dG P E n) fl ops (l++l') fr σ=(match dE P (dG P E n) fl ops l fr σ with|some (aQ,σ1)=>dE P (dG P E n) fl ops l' aQ σ1|none=>none):=by
  intro l
  induction l with
  |nil=>intro l' fr σ;rfl
  |cons o l ih=>
   intro l' fr σ;simp only[yAQ,dE];split
   .cases bX P (dG P E n) fl fr σ o.op with
    |none=>rfl
    |some q=>obtain⟨p,σ'⟩:=q;simp only;exact ih l' _ _
   .exact ih l' _ _
 rw[e,EK h1];simp only[dE,hw,yAK,bX,hc,h3 n hn];exact EK h5
theorem YQ{o:Oper}{rest:List Oper}{tg:FuncId ⊕ Nat}{args:Ey}{K:List PD->List aB->Prop}(hw:Region.wanted o (bM ops fr)=true)(hc:fJ fr o.op=some (tg,args))
  (h:aL P E fl tg args σ (λp σ2=>∃wN,aW fr o.dst p=wN/\SQ P (eK E) fl ops rest wN σ2 K)):Region.wanted o (bM ops fr)=true/\∃tg args,fJ fr o.op=some (tg,args)/\aL P E fl tg args σ (λp σ2=>∃wN,aW fr o.dst p=wN/\SQ P (eK E) fl ops rest wN σ2 K):=
 ⟨hw,tg,args,hc,h⟩
theorem pJ.here{id:Nat}{K:List aB->Prop}{items:Eu}{σ σ2:Ex}(h:pJ P E fl id K items σ σ2):K σ:=by cases h<;>assumption
theorem pJ.inv{id:Nat}{K:List aB->Prop}{a:Ey}{items:Eu}{σ σ2:Ex}(h:pJ P E fl id K (a::items) σ σ2) :
  (∃σ1,iI P E fl (.inr id) a σ (.bool true) σ1/\pJ P E fl id K items σ1 σ2)\/iI P E fl (.inr id) a σ (.bool false) σ2:=by
 cases h with
 |more h1 h2 h3=>exact .inl ⟨_,h2,h3⟩
 |stop h1 h2=>exact .inr h2
theorem pJ.QH{id:Nat}{K:List aB->Prop}{σ σ2:Ex}(h:pJ P E fl id K [] σ σ2):σ2=σ:=Az
structure bC (I:Nat->List PD->List aB->Prop) (m:Nat) (ms:List Nat) (Q:PO->Prop) (r:PO):Prop where
 nx:r.x=.normal->r.ms=ms/\∃m',m'<m/\I m' r.fr r.σ
 out:r.x≠.normal->Q r
theorem bC.normal{I:Nat->List PD->List aB->Prop}{m:Nat}(m':Nat)(h:m'<m)(k:I m' fr σ):bC I m ms Q ⟨.normal,fr,ms,σ⟩:=⟨λ_=>⟨rfl,m',h,k⟩,λe=>absurd rfl e⟩
theorem bC.ret{I:Nat->List PD->List aB->Prop}{m:Nat}{ms':List Nat}(h:Q ⟨.ret,fr,ms',σ⟩):bC I m ms Q ⟨.ret,fr,ms',σ⟩:=⟨λe=>zu,λ_=>h⟩
theorem bC.exit{I:Nat->List PD->List aB->Prop}{m k:Nat}{ms':List Nat}(h:Q ⟨.exit k,fr,ms',σ⟩):bC I m ms Q ⟨.exit k,fr,ms',σ⟩:=⟨λe=>zu,λ_=>h⟩
theorem Wp.cI{b:Code}(I:Nat->List PD->List aB->Prop)(h:∀m fr σ,I m fr σ->Wp P E rd b fl fr ms σ (bC I m ms Q)):∀m {fr σ},I m fr σ->Wp P E rd (.loop b) fl fr ms σ Q:=by
 intro m
 induction m using Nat.strongRecOn with
 |ind m ih=>
  intro fr σ hi;refine Wp.loop ((h m fr σ hi).mono λr hr=>⟨λe=>?_,λe=>hr.out e⟩);obtain⟨e1,m',h1,h2⟩:=hr.nx e;rw[e1];exact ih m' h1 h2
end
end
section
section
variable{P:Program}{E:aE}{rd:Option Nat}{fl:Nat}{fr frA:Ey}{ms:List Nat}{σ:Ex}{Q:PO->Prop}
def HL(R:PD->List aB->Prop)(id:Nat)(L:aB)(fE:List PD)(ps:List Tmp)(asg bd:Code)(r:PO):Prop:=
 match r.x with
 |.normal=>R (.bool true) (r.σ.set id L)
 |.ret=>R (.bool false) (r.σ.set id (.loop (.done .ret) fE ps asg bd))
 |.exit k=>R (.bool false) (r.σ.set id (.loop (.done (.exit k)) fE ps asg bd))
theorem aL.QC{id:Nat}{args:Ey}{R:PD->List aB->Prop}{fE:Ey}{ps:List Tmp}{asg bd:Code}{L:aB}(hL:L=.loop .ready fE ps asg bd)(hfl:fl<=id)(h0:σ[id]?=some L)(hl:args.length=ps.length)(hfr:tQ fE ps args=frA)
  (h:∀LB,LB=aB.loop .busy fE ps asg bd->Wp P E (some id) asg fl frA [] σ (λr=>r.x=.normal/\r.σ[id]?=some L/\∃QD,r.σ.set id LB=QD /\
   Wp P E (some id) bd fl r.fr r.ms QD (λr2=>r2.σ[id]?=some LB/\HL R id L fE ps asg bd r2))):aL P E fl (.inr id) args σ R:=by
 subst hL hfr;refine aL.round hfl h0 hl ((h _ rfl).mono λr hr=>?_);obtain⟨e1,e2,QD,rfl,hw⟩:=hr;refine⟨e1,_,_,_,_,e2,hw.mono λr2 h2=>⟨_,_,_,_,h2.1,?_⟩⟩;have h3:=h2.2;unfold HL at h3;cases hx:r2.x<;>simp only[hx]at h3 ⊢<;>exact h3
theorem Wp.QE{g:Operand}{ps:Array Tmp}{asg bd:Code}{gf:FuncId}{cap:Ey}{K:List aB->Prop}{items:Eu}{n:Nat}{σ1:aB->Ex}(hit:Iter P E gf cap K items)(hg:bV fr g=some (.func gf cap))(hn:σ.length=n)(hfl:fl<=n)
  (dK:∀L,σ++[.mark]++[L]=σ1 L)
  (h:∀L,L=aB.loop .ready fr ps.toList asg bd->sF P E fl (n+1) K items (σ1 L) (λσ2=>∃r,wL (n+1) fr (n::ms) σ2=some r/\Q r)):Wp P E none (.rangeFunc g ps asg bd) fl fr ms σ Q:=by
 subst hn;have:=h _ rfl;rw[<-dK]at this;exact Wp.rangeFunc (eA hg) hfl hit this
theorem sF.ind{α:Type}{id:Nat}{K R:List aB->Prop}(item:α->List PD)(I:List α->List α->List aB->Prop)
  (h:∀done a rest σ,I done (a::rest) σ->K σ/\aL P E fl (.inr id) (item a) σ (λp σ1=>(p=.bool true/\I (done++[a]) rest σ1)\/(p=.bool false/\R σ1))) (h0:∀done σ,I done [] σ->K σ/\R σ) :
  ∀rest done σ,I done rest σ->sF P E fl id K (rest.map item) σ R
 | [],done,σ,hi=>.nil (h0 done σ hi).1 (h0 done σ hi).2
 |a::rest,done,σ,hi=>.cons (h done a rest σ hi).1 ((h done a rest σ hi).2.mono λp σ1 hp=>hp.imp (λ⟨e,k⟩=>⟨e,sF.ind item I h h0 rest _ _ k⟩) (λx=>x))
end
end
section
open Go.RowKit Go.ChangeShapes
theorem aF.aFS{P:Program}{E:aE}(hE:aF P E)(hP:P.follows .mixedOrders=true){f:FuncId}{b:Bool}{N:Nat}{σ1:Ex}(h:dG P E N 0 (.inl f) [] []=some (.bool b,σ1)) :
  aF P (E.add f (entry (uV Em.bool (some b)))):=by
 intro F fl f' g' args c vs p σ' hF hg hgo hs hX hv;unfold aE.add at hg;split at hg
 .rename_i e;subst e;simp only[yAb]at hg;subst hg
  match args,hgo,hv with
  | [],hgo,hv=>
    simp only[entry,uV,yAb,yAc]at hgo;obtain⟨rfl,rfl⟩:=hgo;have gR:aS c.bare vs []:=⟨hv.1,λi v d _ h2=>by simp at h2⟩;have:=(AI hE hP hF N).fn (c:=c.bare) h hs.bare (λ_ _ h=>h.elim) gR;refine⟨this.1,λm=>yCE (this.2 m) λe w' he=>?_⟩;cases e with
    |returned v=>
     obtain⟨c1,rfl,rfl,hs1,nx,hvv,_⟩:=he;have hgr:c.w.grownBy c1.w none:=⟨nx.os,nx.tape,nx.output,nx.size,λk hk _=>nx.frame k hk (λ_ h=>h.elim)⟩;refine⟨c.at c1.w,rfl,rfl,hs.grow hgr,Nx.grow hs hgr,?_,λ_ h=>.inl h⟩;rw[hvv.yL];exact .bool b
    |panicked ch=>exact he.elim
    |outgrown=>exact he.elim
 .exact ew
theorem aI.calls{P:Program}{E:aE}(hE:aF P E)(hP:P.follows .mixedOrders=true)(hN:∀(f:FuncId) fn,P.funcs[f]?=some fn->(fn.name== "runtime.NumGoroutine")=false)
  {f:FuncId} {args:Ey} {vs:Fb} {w:World} {b:Bool} (h:aI P E f args (.bool b)) (hg:Gl (.start w)) (hv:aS (.start w) vs.toList args) :
  Calls P f vs w λe w'=>e=.returned (.bool b)/\Below w.heap.size w w':=by
 obtain⟨p1,σ1,⟨N,hN'⟩,hp⟩:=h;have hb:p1=.bool b:=by
  cases p1 with
  |slice n xs tok=>cases xs<;>simp[PD.strip]at hp
  |_=>simpa [PD.strip]using hp
 subst hb;have:=aFT hE hP hN (hN' N (yAk _)) hg hv;exact bq
section
variable{H:Type}{enc:TypeId×Value->H}{P:Program}
theorem Y0(hl:laidOutB P=true){W W':World}(hb:Below W.heap.size W W'):∀(ts:List TypeId) (vs:List Value) (ds:List (DataW H)) (ps:List MemPlace),(∀t∈ts,P.readableRec t=true/\t<P.types.size)->(∀x∈ps,x.block<W.heap.size) ->
  DataW.TrodAll enc P W 0 (λ_=>true) true ts vs ds ps->DataW.TrodAll enc P W' 0 (λb=>decide (b<W.heap.size)) true ts vs ds ps
 | [],[],[],_,_,_,h=>h
 |t::ts,v::vs,d::ds,ps,ht,hp,h=>by
  obtain⟨p,q,h1,h2,rfl⟩:=h;obtain⟨h3,h4⟩:=ht t yg;exact⟨p,q,Below.trod hl h3 h4 h1 hb (λx hx=>hp x (by simp[hx])),Y0 hl hb ts vs ds q (λt' h'=>ht t' (by simp[h'])) (λx hx=>hp x (by simp[hx])) h2,rfl⟩
 | [],[],_::_,_,_,_,h=>h.elim
 | [],_::_,_,_,_,_,h=>yw
 |_::_,[],_,_,_,_,h=>yw
 |_::_,_::_,[],_,_,_,h=>h.elim
theorem aFy(hl:laidOutB P=true){f:Func}{s:ChangeSpec}{W W':World}{args:Fb}{ds gs:List (DataW H)}{before:List MemPlace}{tb:TypeId}(hvars:s.vars=[])
  (hW:DataW.Whole enc P f.params.toList s.vars false W args.toList ds gs before) (hb:Below W.heap.size W W') (hres:f.resultTypes=#[tb]) (htb:P.underlying tb=some .bool)
  (hps:(f.params.toList.all λt=>P.readableRec t&&decide (t<P.types.size))=true) (hs:∀ds:List (DataW H),gs=[]->ds.length=f.params.size->s.fn H (ds++gs)={ results:=[.lit (.bool true)],args:=ds }) :
  s.post enc P f false true false false W args (.bool true) W':=by
 have K4:=hW;obtain⟨p,q,hA,hV,rfl,hfz,hnd⟩:=hW;rw[hvars]at hV;obtain⟨rfl,rfl⟩:gs=[]/\q=[]:=by
  cases gs with
  |nil=>exact⟨rfl,hV⟩
  |cons g r=>exact absurd hV (by intro h;cases h)
 have hlen:ds.length=f.params.size:=by
  have:∀(ts:List TypeId) (vs:List Value) (ds:List (DataW H)) (ps:List MemPlace),DataW.TrodAll enc P W 0 (λ_=>true) true ts vs ds ps->ds.length=ts.length:=by
   intro ts
   induction ts with
   |nil=>
    intro vs ds ps h;cases vs<;>cases ds<;>first|rfl|(exact h.elim)|cases h
   |cons t ts ih=>
    intro vs ds ps h;cases vs with
    |nil=>cases h
    |cons v vs=>
     cases ds with
     |nil=>exact h.elim
     |cons d ds=>
      obtain⟨p,q,_,h2,_⟩:=h;simp[ih vs ds q h2]
  have:=this _ _ _ _ hA;exact bq
 have e:=hs ds rfl hlen;have hlt:∀x∈p,x.block<W.heap.size:=λx hx=>by simpa using K4.lt x Bc
 refine⟨ds,[],_,[],p,[],K4,?_,?_,?_,hb.frame _,λh=>yw⟩
 .rw[e,hres];exact trodAll_mk1 (shut_bool htb true)
 .rw[e];exact Y0 hl hb _ _ _ _ (λt ht=>by simpa using yAn.1 hps t ht) hlt hA
 .rw[e,hvars];rfl
end
end
section
structure By (p:Prop):Prop where
 h:p
structure Fr (p:Prop):Prop where
 h:p
structure Wt (p:Prop):Prop where
 h:p
structure Ns (p:Prop):Prop where
 h:p
theorem By.i{p:Prop}(h:p):By p:=⟨h⟩
theorem Fr.i{p:Prop}(h:p):Fr p:=⟨h⟩
theorem Wt.i{p:Prop}(h:p):Wt p:=⟨h⟩
theorem Ns.i{p:Prop}(h:p):Ns p:=⟨h⟩
section
variable{P:Program}{E:aE}{call:bY}{rd:Option Nat}{fl:Nat}{fr aQ:Ey}{ms:List Nat}{σ σ1:Ex}{Q:PO->Prop}{ops:Fc}{K:List PD->List aB->Prop}{l:List Oper}{dst:Option Tmp}
 {ty:TypeId} {pos:String} {edges:Array Edge} {guard:Option (Nat×Bool)} {t:TypeId} {x y:Operand} {p q r:PD}
theorem SL.move(hw:Wt (Region.wanted ⟨dst,.move x,ty,pos,edges,guard⟩ (bM ops fr)=true))(hx:bV fr x=some p)(hf:Fr (aW fr dst p=aQ))(k:SQ P call fl ops l aQ σ K):SQ P call fl ops (⟨dst,.move x,ty,pos,edges,guard⟩::l) fr σ K:=SQ.move hw.h hx hf.h k
theorem SL.assign(hw:Wt (Region.wanted ⟨dst,.assign x,ty,pos,edges,guard⟩ (bM ops fr)=true))(hx:bV fr x=some p)(hf:Fr (aW fr dst p=aQ))(k:SQ P call fl ops l aQ σ K):SQ P call fl ops (⟨dst,.assign x,ty,pos,edges,guard⟩::l) fr σ K:=SQ.assign hw.h hx hf.h k
theorem SL.pick{c:Operand}{b:Bool}(hw:Wt (Region.wanted ⟨dst,.pick c x y,ty,pos,edges,guard⟩ (bM ops fr)=true))(hc:bV fr c=some (.bool b))(hx:cond b (bV fr x) (bV fr y)=some p)(hf:Fr (aW fr dst p=aQ))(k:SQ P call fl ops l aQ σ K) :
  SQ P call fl ops (⟨dst,.pick c x y,ty,pos,edges,guard⟩::l) fr σ K:=SQ.pick hw.h hc hx hf.h k
theorem SL.binOp{op:BinOp}{u:TypeId}(hw:Wt (Region.wanted ⟨dst,.binOp op t x y u,ty,pos,edges,guard⟩ (bM ops fr)=true))(hx:bV fr x=some p)(hy:bV fr y=some q)(hr:By (dF P op t p q=some r))(hf:Fr (aW fr dst r=aQ))(k:SQ P call fl ops l aQ σ K) :
  SQ P call fl ops (⟨dst,.binOp op t x y u,ty,pos,edges,guard⟩::l) fr σ K:=SQ.binOp hw.h hx hy hr.h hf.h k
theorem SL.uW{e:TypeId}{b:Bool}{u:TypeId}(hw:Wt (Region.wanted ⟨dst,.binOp .eql t x (.const (.slice none 0 0)) u,ty,pos,edges,guard⟩ (bM ops fr)=true))(hx:bV fr x=some p)(hu:By (P.underlying t=some (.slice e)))(hb:By (fU p=some b))(hf:Fr (aW fr dst (.bool b)=aQ))(k:SQ P call fl ops l aQ σ K) :
  SQ P call fl ops (⟨dst,.binOp .eql t x (.const (.slice none 0 0)) u,ty,pos,edges,guard⟩::l) fr σ K:=SQ.uW hw.h hx hu.h hb.h hf.h k
theorem SL.make{e:TypeId}{k1 k2:IntKind}{a b:Int}(hw:Wt (Region.wanted ⟨dst,.makeSlice t x y,ty,pos,edges,guard⟩ (bM ops fr)=true))(hx:bV fr x=some (.int k1 a))(hy:bV fr y=some (.int k2 b))(hu:By (P.underlying t=some (.slice e)))(ha:Wt (0<=a/\0<=b))
  (hr:By (sA P σ t e a.toNat b.toNat=some (r,σ1))) (hf:Fr (aW fr dst r=aQ)) (k:SQ P call fl ops l aQ σ1 K):SQ P call fl ops (⟨dst,.makeSlice t x y,ty,pos,edges,guard⟩::l) fr σ K:=SQ.make hw.h hx hy hu.h ha.h hr.h hf.h k
theorem SL.unOp{op:UnOp}(hw:Wt (Region.wanted ⟨dst,.unOp op t x,ty,pos,edges,guard⟩ (bM ops fr)=true))(hx:bV fr x=some p)(hr:By (EJ op p=some r))(hf:Fr (aW fr dst r=aQ))(k:SQ P call fl ops l aQ σ K) :
  SQ P call fl ops (⟨dst,.unOp op t x,ty,pos,edges,guard⟩::l) fr σ K:=SQ.unOp hw.h hx hr.h hf.h k
theorem SL.convert{u:TypeId}(hw:Wt (Region.wanted ⟨dst,.convert u t x,ty,pos,edges,guard⟩ (bM ops fr)=true))(hx:bV fr x=some p)(hr:By (LM P u t p=some r))(hf:Fr (aW fr dst r=aQ))(k:SQ P call fl ops l aQ σ K) :
  SQ P call fl ops (⟨dst,.convert u t x,ty,pos,edges,guard⟩::l) fr σ K:=SQ.convert hw.h hx hr.h hf.h k
theorem SL.makeFunc{f:FuncId}{cap:Array Operand}{cs:Ey}(hw:Wt (Region.wanted ⟨dst,.makeFunc (.func f) #[] cap,ty,pos,edges,guard⟩ (bM ops fr)=true))(hx:yH fr cap.toList=some cs)(hf:Fr (aW fr dst (.func f cs)=aQ))(k:SQ P call fl ops l aQ σ K) :
  SQ P call fl ops (⟨dst,.makeFunc (.func f) #[] cap,ty,pos,edges,guard⟩::l) fr σ K:=SQ.makeFunc hw.h hx hf.h k
theorem SL.slice{lo hi mx:Option Operand}{lo' hi' HK:Option (Option PD)}(hw:Wt (Region.wanted ⟨dst,.slice t x lo hi mx,ty,pos,edges,guard⟩ (bM ops fr)=true))(hx:bV fr x=some p)(h1:yI fr lo=some lo')(h2:yI fr hi=some hi')(h3:yI fr mx=some HK)
  (hr:By (jY P t p lo' hi' HK=some r)) (hf:Fr (aW fr dst r=aQ)) (k:SQ P call fl ops l aQ σ K):SQ P call fl ops (⟨dst,.slice t x lo hi mx,ty,pos,edges,guard⟩::l) fr σ K:=SQ.slice hw.h hx h1 h2 h3 hr.h hf.h k
theorem SL.fieldAddr{f:Nat}(hw:Wt (Region.wanted ⟨dst,.fieldAddr t x f,ty,pos,edges,guard⟩ (bM ops fr)=true))(hx:bV fr x=some p)(hr:By (AH P t p f=some r))(hf:Fr (aW fr dst r=aQ))(k:SQ P call fl ops l aQ σ K) :
  SQ P call fl ops (⟨dst,.fieldAddr t x f,ty,pos,edges,guard⟩::l) fr σ K:=SQ.fieldAddr hw.h hx hr.h hf.h k
theorem SL.indexAddr(hw:Wt (Region.wanted ⟨dst,.indexAddr t x y,ty,pos,edges,guard⟩ (bM ops fr)=true))(hx:bV fr x=some p)(hy:bV fr y=some q)(hr:By (nP P t p q=some r))(hf:Fr (aW fr dst r=aQ))(k:SQ P call fl ops l aQ σ K) :
  SQ P call fl ops (⟨dst,.indexAddr t x y,ty,pos,edges,guard⟩::l) fr σ K:=SQ.indexAddr hw.h hx hy hr.h hf.h k
theorem SL.index(hw:Wt (Region.wanted ⟨dst,.index t x y,ty,pos,edges,guard⟩ (bM ops fr)=true))(hx:bV fr x=some p)(hy:bV fr y=some q)(hr:By (yJ P t p q=some r))(hf:Fr (aW fr dst r=aQ))(k:SQ P call fl ops l aQ σ K) :
  SQ P call fl ops (⟨dst,.index t x y,ty,pos,edges,guard⟩::l) fr σ K:=SQ.index hw.h hx hy hr.h hf.h k
theorem SL.extract{i:Nat}{vs:Ey}(hw:Wt (Region.wanted ⟨dst,.extract x i,ty,pos,edges,guard⟩ (bM ops fr)=true))(hx:bV fr x=some (.aP vs))(hr:vs[i]?=some r)(hf:Fr (aW fr dst r=aQ))(k:SQ P call fl ops l aQ σ K) :
  SQ P call fl ops (⟨dst,.extract x i,ty,pos,edges,guard⟩::l) fr σ K:=SQ.extract hw.h hx hr hf.h k
theorem SL.build{parts:Array (Nat×Operand)}{ps:List (Nat×PD)}(hw:Wt (Region.wanted ⟨dst,.build t parts,ty,pos,edges,guard⟩ (bM ops fr)=true))(hx:yK fr parts.toList=some ps)(hr:By (CM P t ps=some r))(hf:Fr (aW fr dst r=aQ))(k:SQ P call fl ops l aQ σ K) :
  SQ P call fl ops (⟨dst,.build t parts,ty,pos,edges,guard⟩::l) fr σ K:=SQ.build hw.h hx hr.h hf.h k
theorem SL.builtin{b:Builtin}{args:Array Operand}{ts:Array TypeId}{ps:Ey}(hw:Wt (Region.wanted ⟨dst,.call { callee:=.builtin b,args:=args,argTypes:=ts },ty,pos,edges,guard⟩ (bM ops fr)=true))(hx:yH fr args.toList=some ps)(hr:By (jE P b ts ps=some r))
  (hf:Fr (aW fr dst r=aQ)) (k:SQ P call fl ops l aQ σ K):SQ P call fl ops (⟨dst,.call { callee:=.builtin b,args:=args,argTypes:=ts },ty,pos,edges,guard⟩::l) fr σ K:=SQ.builtin hw.h hx hr.h hf.h k
theorem SL.load(hw:Wt (Region.wanted ⟨dst,.load t x,ty,pos,edges,guard⟩ (bM ops fr)=true))(hx:bV fr x=some p)(hr:By (oM P σ t p=some r))(hf:Fr (aW fr dst r=aQ))(k:SQ P call fl ops l aQ σ K):SQ P call fl ops (⟨dst,.load t x,ty,pos,edges,guard⟩::l) fr σ K:=SQ.load hw.h hx hr.h hf.h k
theorem SL.store(hw:Wt (Region.wanted ⟨dst,.store t x y,ty,pos,edges,guard⟩ (bM ops fr)=true))(hx:bV fr x=some p)(hy:bV fr y=some q)(hr:By (pH P fl σ t p q=some σ1))(hf:Fr (aW fr dst (.aP [])=aQ))(k:SQ P call fl ops l aQ σ1 K) :
  SQ P call fl ops (⟨dst,.store t x y,ty,pos,edges,guard⟩::l) fr σ K:=SQ.store hw.h hx hy hr.h hf.h k
theorem SL.alloc{p':PD}(hw:Wt (Region.wanted ⟨dst,.alloc t,ty,pos,edges,guard⟩ (bM ops fr)=true))(hx:By (eE P t=some p))(hp:p.cells.all PD.plain=true)(hb:By (boxed t p=p'))(hr:Ns (σ++[.box p']=σ1)){n:Nat}(hn:Ns (σ.length=n))(hf:Fr (aW fr dst (.ptr n 0)=aQ))(k:SQ P call fl ops l aQ σ1 K) :
  SQ P call fl ops (⟨dst,.alloc t,ty,pos,edges,guard⟩::l) fr σ K:=SQ.alloc hw.h hx.h hp hb.h hr.h hn.h hf.h k
theorem SL.box(hw:Wt (Region.wanted ⟨dst,.box t x,ty,pos,edges,guard⟩ (bM ops fr)=true))(hx:bV fr x=some p)(hp:p.cells.all PD.plain=true)(hr:Ns (σ++[.box p]=σ1)){n:Nat}(hn:Ns (σ.length=n))(hf:Fr (aW fr dst (.ptr n 0)=aQ))(k:SQ P call fl ops l aQ σ1 K) :
  SQ P call fl ops (⟨dst,.box t x,ty,pos,edges,guard⟩::l) fr σ K:=SQ.box hw.h hx hp hr.h hn.h hf.h k
theorem SL.buildSlice{len:Nat}{parts:Array (Nat×Operand)}{ps:List (Nat×PD)}(hw:Wt (Region.wanted ⟨dst,.buildSlice t len parts,ty,pos,edges,guard⟩ (bM ops fr)=true))(hx:yK fr parts.toList=some ps)(hr:By (sE P t len (ps.map λq=>(q.1,q.2.strip))=some r))
  (hf:Fr (aW fr dst r=aQ)) (k:SQ P call fl ops l aQ σ K):SQ P call fl ops (⟨dst,.buildSlice t len parts,ty,pos,edges,guard⟩::l) fr σ K:=SQ.buildSlice hw.h hx hr.h hf.h k
theorem SL.append(hw:Wt (Region.wanted ⟨dst,.call { callee:=.builtin .append,args:=#[x,y],argTypes:=#[t,t] },ty,pos,edges,guard⟩ (bM ops fr)=true))(hx:bV fr x=some p)(hy:bV fr y=some q)
  (hr:By ((if gH t fr.length=true then cX P fr.length fl σ t p q else fA P fl σ t p q.strip)=some (r,σ1))) (hf:Fr (aW fr dst r=aQ)) (k:SQ P call fl ops l aQ σ1 K):SQ P call fl ops (⟨dst,.call { callee:=.builtin .append,args:=#[x,y],argTypes:=#[t,t] },ty,pos,edges,guard⟩::l) fr σ K:=SQ.append hw.h hx hy hr.h hf.h k
theorem SL.uX{g:Operand}{args:Array Operand}{ts:Array TypeId}{f:FuncId}{cap ps:Ey}(hw:Wt (Region.wanted ⟨dst,.call { callee:=.value g,args:=args,argTypes:=ts },ty,pos,edges,guard⟩ (bM ops fr)=true))(hg:bV fr g=some (.func f cap))
  (hx:yH fr args.toList=some ps) (hr:By (call fl (.inl f) (ps++cap) σ=some (r,σ1))) (hf:Fr (aW fr dst r=aQ)) (k:SQ P call fl ops l aQ σ1 K):SQ P call fl ops (⟨dst,.call { callee:=.value g,args:=args,argTypes:=ts },ty,pos,edges,guard⟩::l) fr σ K:=SQ.uX hw.h hg hx hr.h hf.h k
theorem SL.pass{op:Op}{g:Nat×Bool}(hw:Wt (Region.wanted ⟨dst,op,ty,pos,edges,some g⟩ (bM ops fr)=false))(hf:Fr (aW fr dst (.aP [])=aQ))(k:SQ P call fl ops l aQ σ K):SQ P call fl ops (⟨dst,op,ty,pos,edges,some g⟩::l) fr σ K:=
 SQ.pass (o:=⟨dst,op,ty,pos,edges,some g⟩) hw.h hf.h k
def CG(ops:Array Oper):Bool:=ops.toList.all λo=>match o.op with
 |.call { callee:=.value (.tmp _),.. }=>false
 |_=>true
theorem WL.CD{id:Nat}{y:Code}(_hs:CG ops=true)(h:SQ P (eK E) fl ops ops.toList fr σ (λfr' σ'=>Wp P E rd y fl fr' ms σ' Q)):Wp P E rd (.seq (.region id ops false) y) fl fr ms σ Q:=by
 obtain⟨fr',σ',h1,h2⟩:=h.ex;exact .seq (.region h1 (.normal h2))
theorem WL.AD{id:Nat}{y:Code}(hU:aH E)(_hd:CG ops=true)(hs:(tO ops&&yF ops)=true)(h:SQ P (kX E) fl ops ops.toList fr σ (λfr' σ'=>Wp P E rd y fl fr' ms σ' Q)):Wp P E rd (.seq (.region id ops true) y) fl fr ms σ Q:=by
 obtain⟨fr',σ',h1,h2⟩:=h.ex;exact .seq (.AD hU hs h1 (.normal h2))
theorem WL.HB{id:Nat}(_hs:CG ops=true)(h:SQ P (eK E) fl ops ops.toList fr σ (λfr' σ'=>Q ⟨.normal,fr',ms,σ'⟩)):Wp P E rd (.region id ops false) fl fr ms σ Q:=.mE h
theorem WL.ct{g:Operand}{x y:Code}(hg:bV fr g=some (.bool true))(h1:Wp P E rd x fl fr ms σ Q):Wp P E rd (.cond g x y) fl fr ms σ Q:=.cond_true (eA hg) h1
theorem WL.cf{g:Operand}{x y:Code}(hg:bV fr g=some (.bool false))(h1:Wp P E rd y fl fr ms σ Q):Wp P E rd (.cond g x y) fl fr ms σ Q:=.cond_false (eA hg) h1
theorem jZ{c:Prop}{σ σ':Ex}{fr:Ey}{A:(Nat->PD)->Ey}(hc:c)(h:fr=A (λn=>fr.getD n (.aP [])))(hs:σ=σ'):∃g:Nat->PD,c/\fr=A g/\σ=σ':=⟨_,hc,h,hs⟩
end
theorem bG{c:Prop}{σ σ':Ex}{fr:Ey}{A:(Nat->PD)->Ey}(hc:c)(h:fr=A (λn=>fr.getD n (.aP [])):=by(first|rfl|(simp[];repeat(first|rfl|(apply And.intro)))|(simp[];done)))(hs:σ=σ':=by(first|rfl|(simp[];repeat(first|rfl|(apply And.intro)))|(simp[];done))):∃g:Nat->PD,c/\fr=A g/\σ=σ':=⟨_,hc,h,hs⟩
theorem dU{X c:Prop}{σ σ':Ex}{fr:Ey}{A:(Nat->PD)->Ey}(hc:c)(gx:X)(h:X->fr=A (λn=>fr.getD n (.aP [])):=by(intro gx;first|rfl|(simp[gx];repeat(first|rfl|(apply And.intro)))|(simp[gx];done)))(hs:X->σ=σ':=by(intro gx;first|rfl|(simp[gx];repeat(first|rfl|(apply And.intro)))|(simp[gx];done))):∃g:Nat->PD,c/\fr=A g/\σ=σ':=⟨_,hc,h gx,hs gx⟩
end
section
section
variable{P:Program}{call:bY}{fl:Nat}{ops:Fc}
theorem SL.LA{x:Operand}{id ver off:Nat}{dst:Option Tmp}{ty:TypeId}{pos:String}{edges:Array Edge}{guard:Option (Tmp×Bool)}{l:List Oper}{fr aQ:Ey}{σ:Ex}{K:List PD->List aB->Prop}(hw:Wt (Region.wanted ⟨dst,.nilCheck x,ty,pos,edges,guard⟩ (bM ops fr)=true))(hx:bV fr x=some (.dH id ver off))(hf:Fr (aW fr dst (.dH id ver off)=aQ))(k:SQ P call fl ops l aQ σ K) :
  SQ P call fl ops (⟨dst,.nilCheck x,ty,pos,edges,guard⟩::l) fr σ K:=
 .step hw.h (qF rfl (by simp only[dL,eA hx])) (hf.h▸k)
end
end
theorem WL.HC{P:Program}{E:aE}{rd:Option Nat}{fl:Nat}{fr:Ey}{ms:List Nat}{σ:Ex}{Q:PO->Prop}{ops:Fc}{id:Nat}(hU:aH E)(_hd:CG ops=true)(hs:(tO ops&&yF ops)=true)(h:SQ P (kX E) fl ops ops.toList fr σ (λfr' σ'=>Q ⟨.normal,fr',ms,σ'⟩)) :
  Wp P E rd (.region id ops true) fl fr ms σ Q:=.aFQ hU hs h
theorem WL.HD{P:Program}{E:aE}{rd:Option Nat}{fl:Nat}{fr:Ey}{ms:List Nat}{σ:Ex}{Q:PO->Prop}{ops:Fc}{id:Nat}(_hd:CG ops=true)(hs:(tO ops&&EI ops)=true)(h:SQ P (eK E) fl ops ops.toList fr σ (λfr' σ'=>Q ⟨.normal,fr',ms,σ'⟩)) :
  Wp P E rd (.region id ops true) fl fr ms σ Q:=.aFR hs h
section
inductive CK where
 |b
 |i (k:IntKind)
 |s
def x8(c:Bool):Option Bool->Option Bool
 |some d=>some (c&&d)
 |none=>none
def kI:List CK->List PD->List PD->Option Bool
 | [],[],[]=>some true
 |.b::ks,.bool a::xs,.bool b::ys=>x8 (decide (a=b)) (kI ks xs ys)
 |.i k::ks,.int k1 a::xs,.int k2 b::ys=>if k1=k/\k2=k then x8 (decide (a=b)) (kI ks xs ys)else none
 |.s::ks,.str a::xs,.str b::ys=>x8 (decide (a=b)) (kI ks xs ys)
 |_,_,_=>none
def HJ(pl:TypeId->Option (List CK))(P:Program):Nat->List Field->Option (List CK)
 |_,[]=>some []
 |off,f::fs=>if f.name= "_" \/ f.offset≠off then none else
  match pl f.type,bT P f.type with
  |some ks,some n=>if ks.length=n/\0<n then(match HJ pl P (off+n) fs with|some r=>some (ks++r)|none=>none)else none
  |_,_=>none
def rF(P:Program):Nat->TypeId->Option (List CK)
 |0,_=>none
 |d+1,t=>match P.underlying t with
  |some .bool=>some [.b]
  |some (.int k)=>some [.i k]
  |some .string=>some [.s]
  |some (.struct fs)=>if P.stoodInHeld t then none else HJ (rF P d) P 0 fs.toList
  |some (.array len e)=>match rF P d e,bT P e with
   |some ks,some n=>if ks.length=n/\0<n then some (List.replicate len ks).flatten else none
   |_,_=>none
  |_=>none
def CJ(P:Program)(t:TypeId)(x:PD)(xs:List PD):Prop:=(fB P t=some true/\x=.agg xs)\/(fB P t=some false/\xs=[x])
theorem YY:∀ {xs ys:Ey} {b:Bool},kI [] xs ys=some b->b=true
 | [],[],b,h=>by simp only[kI,yAb]at h;exact h.symm
 | [],_::_,_,h=>by simp[kI]at h
 |_::_,_,_,h=>by simp[kI]at h
theorem QB:∀(ks r:List CK) (xs ys:List PD) (b:Bool),kI (ks++r) xs ys=some b ->
  ∃b1 b2,kI ks (xs.take ks.length) (ys.take ks.length)=some b1/\kI r (xs.drop ks.length) (ys.drop ks.length)=some b2/\b=(b1&&b2)/\ks.length<=xs.length/\ks.length<=ys.length
 | [],r,xs,ys,b,h=>⟨true,b,rfl,h,yg,yg,yg⟩
 |k::ks,r,xs,ys,b,h=>by
  have key:∀(c:Bool) (us vs:List PD),x8 c (kI (ks++r) us vs)=some b->∃b1 b2,x8 c (kI ks (us.take ks.length) (vs.take ks.length))=some b1/\kI r (us.drop ks.length) (vs.drop ks.length)=some b2/\b=(b1&&b2)/\ks.length<=us.length/\ks.length<=vs.length:=by
   intro c us vs hc;cases h1:kI (ks++r) us vs with
   |none=>rw[h1]at hc;cases hc
   |some d=>
    rw[h1]at hc;simp only[x8,yAb]at hc;obtain⟨b1,b2,e1,e2,e3,e4,e5⟩:=QB ks r us vs d h1;exact⟨c&&b1,b2,Cl,e2,by rw[<-hc,e3,Bool.and_assoc],e4,e5⟩
  match k,xs,ys,h with
  |.b,.bool a::xs,.bool a'::ys,h=>
    exact ki
  |.i k,.int k1 a::xs,.int k2 a'::ys,h=>
    simp only[yAQ,kI]at h;split at h
    .rename_i hk;obtain⟨b1,b2,e1,e2,e3,e4,e5⟩:=key _ xs ys h;exact⟨b1,b2,by simpa only[yAS,yDF,kI,yAJ hk]using e1,e2,e3,by simpa using e4,by simpa using e5⟩
    .cases h
  |.s,.str a::xs,.str a'::ys,h=>
    exact ki
section
variable{P:Program}
theorem aFP{d:Nat}{t:TypeId}{ks:List CK}(h:rF P d t=some ks):(fB P t=some true)\/(fB P t=some false/\ks.length=1):=by
 cases d with
 |zero=>cases h
 |succ d=>
  unfold rF at h;unfold fB;split at h<;>rename_i hu<;>try simp only[hu]
  .right;simp only[yAb]at h;subst h;exact⟨trivial,rfl⟩
  .right;simp only[yAb]at h;subst h;exact⟨trivial,rfl⟩
  .right;simp only[yAb]at h;subst h;exact⟨trivial,rfl⟩
  .left;trivial
  .left;trivial
  .cases h
theorem YZ{d:Nat}{t:TypeId}{ks:List CK}(h:rF P d t=some ks)(hs:bT P t=some ks.length){xs:Ey}{off:Nat}(hl:off+ks.length<=xs.length):∃x,mT P t xs off=some x/\CJ P t x ((xs.drop off).take ks.length):=by
 rcases aFP h with ha | ⟨ha,h1⟩
 .exact⟨_,by simp only[mT,ha,hs,hl,yAK],.inl ⟨ha,rfl⟩⟩
 .rw[h1]at hl;have hlt:off<xs.length:=ye;refine⟨xs[off],by simp only[mT,ha,hs,yAh hlt],.inr ⟨ha,?_⟩⟩;rw[h1,yAq hlt];rfl
theorem LJ:∀(d:Nat) (t:TypeId) (ks:List CK) (x y:PD) (xs ys:List PD) (b:Bool),rF P d t=some ks->CJ P t x xs->CJ P t y ys->kI ks xs ys=some b->kJ P d t x y=some b
 |0,_,_,_,_,_,_,_,h,_,_,_=>yw
 |d+1,t,ks,x,y,xs,ys,b,h,hx,hy,hc=>by
  unfold rF at h;unfold kJ;have fin:∀ {z:PD} {zs:Ey},CJ P t z zs->fB P t=some true->z=.agg zs:=λhz ha=>by
   rcases hz with⟨_,e⟩ | ⟨e,_⟩
   .exact e
   .rw[ha]at e;cases e
  have one:∀ {z:PD} {zs:Ey},CJ P t z zs->fB P t=some false->zs=[z]:=λhz ha=>by
   rcases hz with⟨e,_⟩ | ⟨_,e⟩
   .rw[ha]at e;cases e
   .exact e
  split at h<;>rename_i hu<;>try simp only[hu]
  .simp only[yAb]at h;subst h;have ha:fB P t=some false:=Cg;rw[one hx ha,one hy ha]at hc;cases x<;>cases y<;>simp only[kI,reduceCtorEq]at hc ⊢
   simpa [x8,BEq.beq]using hc
  .rename_i k;simp only[yAb]at h;subst h;have ha:fB P t=some false:=Cg;rw[one hx ha,one hy ha]at hc;cases x<;>cases y<;>simp only[kI,reduceCtorEq]at hc ⊢
   split at hc
   .rename_i hk;rw[yAJ (hk.1.trans hk.2.symm)];simpa [x8,BEq.beq]using hc
   .cases hc
  .simp only[yAb]at h;subst h;have ha:fB P t=some false:=Cg;rw[one hx ha,one hy ha]at hc;cases x<;>cases y<;>simp only[kI,reduceCtorEq]at hc ⊢
   simp only[x8,yDj,yAb]at hc;rw[<-hc];congr 1;rw[Bool.eq_iff_iff];simp
  .rename_i fs;split at h
   .cases h
   .rename_i hst;have ha:fB P t=some true:=Cg;obtain rfl:=fin hx ha;obtain rfl:=fin hy ha;simp only[hst,yAx,yAN];have key:∀(fs:List Field) (off:Nat) (r:List CK) (b:Bool),HJ (rF P d) P off fs=some r->kI r (xs.drop off) (ys.drop off)=some b->x9 (kJ P d) P xs ys fs=some b:=by
     intro fs
     induction fs with
     |nil=>
      intro off r b hr hb;simp only[HJ,yAb]at hr;subst hr;unfold x9;rw[YY hb]
     |cons f fs ih=>
      intro off r b hr hb;simp only[HJ]at hr;split at hr
      .cases hr
      .rename_i hn;have CL:¬f.name= "_" := λe=>hn (.inl e)
       have hn2:f.offset=off:=by
        rcases Nat.decEq f.offset off with e|e
        .exact absurd (.inr e) hn
        .exact e
       split at hr
       .rename_i ks n h1 h2;split at hr
        .rename_i hlen;split at hr
         .rename_i r' h3;simp only[yAb]at hr;subst hr;obtain⟨b1,b2,e1,e2,e3,e4,e5⟩:=QB _ _ _ _ _ hb;obtain⟨hlen,hpos⟩:=hlen;have hpart:∀ {zs:Ey},ks.length<=(zs.drop off).length->∃x,mT P f.type zs off=some x/\CJ P f.type x ((zs.drop off).take ks.length):=by
           intro zs hz;exact ru
          obtain⟨x1,p1,c1⟩:=hpart e4;obtain⟨y1,p2,c2⟩:=hpart e5;have q:=LJ d f.type ks x1 y1 _ _ b1 h1 c1 c2 e1;unfold x9;rw[yAI CL,hn2];simp only[p1,p2,q];rw[yBI,yBI,hlen]at e2;have q2:=ih (off+n) r' b2 h3 e2;exact qi
         .cases hr
        .cases hr
       .cases hr
    exact key fs.toList 0 ks b h (by simpa using hc)
  .rename_i len e;split at h
   .rename_i ks' n h1 h2;split at h
    .rename_i hlen;simp only[yAb]at h;subst h;have ha:fB P t=some true:=Cg;obtain rfl:=fin hx ha;obtain rfl:=fin hy ha;simp only[h2];have key:∀(m i:Nat) (b:Bool),kI (List.replicate m ks').flatten (xs.drop (i*n)) (ys.drop (i*n))=some b->AG (kJ P d e) P e n xs ys i m=some b:=by
      intro m
      induction m with
      |zero=>
       intro i b hb;unfold AG;simp only[List.replicate_zero,List.flatten_nil]at hb;rw[YY hb]
      |succ m ih=>
       intro i b hb;rw[List.replicate_succ,yBr]at hb;obtain⟨b1,b2,e1,e2,e3,e4,e5⟩:=QB _ _ _ _ _ hb;obtain⟨hlen,hpos⟩:=hlen;have hpart:∀ {zs:Ey},ks'.length<=(zs.drop (i*n)).length->∃x,mT P e zs (i*n)=some x/\CJ P e x ((zs.drop (i*n)).take ks'.length):=by
        intro zs hz;exact ru
       obtain⟨x1,p1,c1⟩:=hpart e4;obtain⟨y1,p2,c2⟩:=hpart e5;have q:=LJ d e ks' x1 y1 _ _ b1 h1 c1 c2 e1;unfold AG;simp only[p1,p2,q];rw[yBI,yBI,hlen,<-yBQ]at e2;have q2:=ih (i+1) b2 e2;exact qi
     exact key len 0 b (by simpa using hc)
    .cases h
   .cases h
  .cases h
theorem LK{t:TypeId}{ks:List CK}{xs ys:Ey}{b:Bool}(hg:P.eqGuardType P.depth t=false)(h:rF P 12 t=some ks)(ha:fB P t=some true)(hc:kI ks xs ys=some b) :
  dF P .eql t (.agg xs) (.agg ys)=some (.bool b):=by
 exact mz
theorem LL{t:TypeId}{ks:List CK}{xs ys:Ey}{b:Bool}(hg:P.eqGuardType P.depth t=false)(h:rF P 12 t=some ks)(ha:fB P t=some true)(hc:kI ks xs ys=some b) :
  dF P .neq t (.agg xs) (.agg ys)=some (.bool (!b)):=by
 exact mz
end
end
section
section
variable{α:Type}{e:Em α}{k:Nat}{tok:Tok}
def Em.LI(e:Em α):List PD->Option (List α)
 | []=>some []
 |p::ps=>match e.dec p,e.LI ps with
  |some x,some xs=>some (x::xs)
  |_,_=>none
@[simp] theorem aRq:e.LI []=some []:=rfl
@[simp] theorem aRr{p:PD}{ps:Ey}:e.LI (p::ps)=(match e.dec p,e.LI ps with|some x,some xs=>some (x::xs)|_,_=>none):=rfl
end
end
section
open Go.RowKit
def AF(pl:TypeId->Bool)(P:Program):Nat->List Field->Option Nat
 |off,[]=>some off
 |off,f::fs=>if f.offset=off/\pl f.type=true then AF pl P (off+P.cellsOf f.type) fs else none
def rD(P:Program):Nat->TypeId->Bool
 |0,_=>false
 |d+1,t=>match P.underlying t with
  |some .bool|some (.int _)|some .string=>P.cellsOf t==1
  |some (.slice e)=>P.cellsOf t==1&&rD P d e&&decide (0<P.cellsOf e)
  |some (.struct fs)=>AF (rD P d) P 0 fs.toList==some (P.cellsOf t)
  |some (.array n e)=>rD P d e&&P.cellsOf t==n*P.cellsOf e
  |_=>false
def tP(T:TypeId->List PD->Prop):List Field->List PD->Prop
 | [],ps=>ps=[]
 |f::fs,ps=>∃a b,ps=a++b/\T f.type a/\tP T fs b
def l6(P:Program)(t:TypeId)(ps:List PD):PD:=match fB P t with
 |some true=>.agg ps
 |_=>ps.headD (.aP [])
def Typed(P:Program):Nat->TypeId->List PD->Prop
 |0,_,_=>False
 |d+1,t,ps=>match P.underlying t with
  |some .bool=>∃b,ps=[.bool b]
  |some (.int k)=>∃n,ps=[.int k n]/\(Lit.int k n).wf=true
  |some .string=>∃s,ps=[.str s]/\s.length<=maxLen
  |some (.slice e)=>∃xs:List (List PD),xs.length<=maxLen/\(∀x∈xs,Typed P d e x)/\ps=[.slice (sz (P.cellsOf e) xs) (xs.map (l6 P e)) .any]
  |some (.struct fs)=>tP (Typed P d) fs.toList ps
  |some (.array n e)=>∃xs:List (List PD),xs.length=n/\(∀x∈xs,Typed P d e x)/\ps=xs.flatten
  |_=>False
theorem tP.length{P:Program}{d:Nat}(ih:∀t ps,rD P d t=true->Typed P d t ps->ps.length=P.cellsOf t):∀(fs:List Field) (off n:Nat) (ps:List PD),AF (rD P d) P off fs=some n->tP (Typed P d) fs ps->off+ps.length=n
 | [],off,n,ps,h,ht=>by
   simp only[AF,yAb]at h;simp only[tP]at ht;subst ht h;rfl
 |f::fs,off,n,ps,h,ht=>by
  simp only[AF]at h;split at h
  .rename_i hf;obtain⟨a,b,rfl,ha,hb⟩:=ht;have h1:=ih _ _ hf.2 ha;have h2:=tP.length ih fs _ n b h hb;simp only[yAa];omega
  .cases h
theorem Typed.length{P:Program}:∀(d:Nat) (t:TypeId) (ps:List PD),rD P d t=true->Typed P d t ps->ps.length=P.cellsOf t
 |0,_,_,h,_=>yw
 |d+1,t,ps,h,ht=>by
  unfold rD at h;unfold Typed at ht;split at h<;>rename_i hu<;>try simp only[hu]at ht
  .obtain⟨b,rfl⟩:=ht;simp at h;simp[h]
  .obtain⟨b,rfl,_⟩:=ht;simp at h;simp[h]
  .obtain⟨b,rfl,_⟩:=ht;simp at h;simp[h]
  .obtain⟨xs,_,_,rfl⟩:=ht;simp at h;simp[h]
  .simp only[yCd]at h;have:=tP.length (Typed.length d) _ 0 _ ps h ht;omega
  .rename_i n e;simp only[yAr,yCd]at h;obtain⟨xs,h1,h2,rfl⟩:=ht;rw[h.2,<-h1];have key:∀(xs:List (List PD)),(∀x∈xs,Typed P d e x)->xs.flatten.length=xs.length*P.cellsOf e:=by
    intro xs
    induction xs with
    |nil=>intro _;simp
    |cons x xs ih=>
     intro hx;rw[yBr,yAa,Typed.length d e x h.1 (hx x yg),ih (λy hy=>hx y Aw),yAS,yBQ];omega
   exact key xs h2
section
variable{H:Type}{enc:TypeId×Value->H}{P:Program}{w:World}{base:Nat}{sp:Nat->Bool}{held:Bool}
structure lO (w:World) (cs:List Value) (ps:List PD):Prop where
 EH:aS (.start w) cs ps
 one:∀v∈cs,v.oneCell'=true
theorem lO.nil:lO w [] []:=⟨⟨rfl,yg⟩,yg⟩
theorem lO.single{v:Value}{p:PD}(h:VR (.start w) v p)(ho:v.oneCell'=true):lO w [v] [p]:=
 ⟨⟨rfl,λi u d h1 h2=>by cases i with
   |zero=>simp at h1 h2;subst h1 h2;exact h
   |succ i=>simp at h1⟩,Bd⟩
theorem lO.append{a b:Fa}{ps qs:Ey}(h:lO w a ps)(k:lO w b qs):lO w (a++b) (ps++qs):=
 ⟨h.EH.append k.EH,λv hv=>(yBf.1 hv).elim (h.one v) (k.one v)⟩
theorem lO.agg{cs:Fa}{ps:Ey}(h:lO w cs ps):VR (.start w) (.agg cs.toArray) (.agg ps):=.agg cs ps h.EH.1 h.one h.EH.2
theorem aFN{t:TypeId}{d:Nat}{ps:Ey}(h:rD P d t=true)(ht:Typed P d t ps):(l6 P t ps).cells=ps:=by
 cases d with
 |zero=>cases h
 |succ d=>
  unfold rD at h;unfold Typed at ht;unfold l6 fB;split at h<;>rename_i hu<;>try simp only[hu]at ht ⊢
  .obtain⟨b,rfl⟩:=ht;rfl
  .obtain⟨b,rfl,_⟩:=ht;rfl
  .obtain⟨b,rfl,_⟩:=ht;rfl
  .obtain⟨xs,_,_,rfl⟩:=ht;rfl
  .rfl
  .rfl
theorem aFO{fuel:Nat}{t:TypeId}{cs:Fa}{x:DataW H×List MemPlace}(ht:P.underlying t=some .bool)(h:DataW.trod enc P w base sp held fuel t cs=some x):∃b,cs=[.bool b]:=by
 cases fuel with
 |zero=>simp[DataW.trod]at h
 |succ n=>
  unfold DataW.trod at h;rw[ht]at h;split at h<;>simp_all
theorem LH:∀(fuel d:Nat) (t:TypeId) (cs:List Value) (x:DataW H×List MemPlace),DataW.trod enc P w base sp held fuel t cs=some x->rD P d t=true->∃ps,Typed P d t ps/\lO w cs ps
 |_,0,_,_,_,_,h=>yw
 |fuel,d+1,t,cs,x,hx,h=>by
  unfold rD at h;split at h<;>rename_i hu<;>try simp only[Typed,hu]
  .obtain⟨b,rfl⟩:=aFO hu hx;exact⟨_,⟨b,rfl⟩,lO.single (.bool _) rfl⟩
  .rename_i k;obtain⟨n,rfl,_,hw⟩:=DataW.trod_int hu hx;exact⟨_,⟨n,rfl,hw⟩,lO.single (.int _ _) rfl⟩
  .obtain⟨s,rfl,_,hs⟩:=DataW.trod_string hu hx;refine⟨_,⟨s.data.toList,rfl,by rw[yBi];exact hs⟩,lO.single ?_ rfl⟩;exact rq
  .rename_i e;simp only[yAr,yBY]at h;obtain⟨⟨_,he⟩,hpos⟩:=h;rcases DataW.trod_slice hu hx with⟨rfl,_⟩ | ⟨a,len,cap,elems,rest,n,rfl,rfl,hrest⟩
   .exact⟨_,⟨[],yg,yg,rfl⟩,lO.single (.slice none 0 0 0 [] .any [] rfl (yAk _) (yAF _) yg rfl yg yg yg trivial) rfl⟩
   .obtain⟨_,hlc,hcm,hel,hall,_,_⟩:=hrest.2;have key:∀(k i:Nat),i+k=len->∃(ys:List (List PD)) (fl:List Value),ys.length=k/\(∀y∈ys,Typed P d e y)/\lO w fl ys.flatten/\fl.length=k*P.cellsOf e /\
      ∀(j:Nat) (v:Value),fl[j]?=some v->w.cell? (a.add (i*P.cellsOf e+j))=some v:=by
     intro k
     induction k with
     |zero=>intro i _;exact⟨[],[],rfl,yg,lO.nil,yg,yg⟩
     |succ k ih=>
      intro i hi;obtain⟨ys,fl,h1,h2,h3,h4,h5⟩:=ih (i+1) ye;have h6:=hall i ye;have hlt:i<elems.length:=ye;rw[yAh hlt,Option.bind_eq_some_iff]at h6;obtain⟨vs,h7,h8⟩:=h6;obtain⟨_,h9,h10⟩:=World.cells?_some h7;obtain⟨qs,h11,h12⟩:=LH n d e _ _ h8 he;refine⟨qs::ys,vs++fl,by simp[h1],by simpa using⟨h11,h2⟩,by rw[yBr];exact h12.append h3,by rw[yAa,h9,h4,yBQ];omega,λj v hv=>?_⟩;rcases yCe j vs.length with hj|hj
      .rw[yAg hj]at hv;have:=h10 j ye;rw[CI]at this;rw[this,hv]
      .rw[yBz hj]at hv;have:=h5 _ v hv;rw[h9]at this hj;rw[<-this,yBQ]
       congr 2
       omega
    obtain⟨ys,fl,h1,h2,h3,h4,h5⟩:=key len 0 ye;have hcells:∀y∈ys,(l6 P e y).cells=y:=λy hy=>aFN he (h2 y hy)
    have hflat:(ys.map (l6 P e)).flatMap PD.cells=ys.flatten:=by
     have:∀(ys:List (List PD)),(∀y∈ys,(l6 P e y).cells=y)->(ys.map (l6 P e)).flatMap PD.cells=ys.flatten:=by
      intro ys
      induction ys with
      |nil=>intro _;rfl
      |cons y ys ih=>
       intro hy;rw[yAR,yBs,yBr,hy y yg,ih (λz hz=>hy z (by simp[hz]))]
     exact this ys hcells
    refine⟨_,⟨ys,ye,h2,rfl⟩,lO.single (.slice (some a) len cap _ _ .any fl (by simp[h1]) hlc hcm ?_ ?_ h3.one ?_ ?_ trivial) rfl⟩
    .intro x hx;obtain⟨y,hy,rfl⟩:=yAw.1 hx;rw[hcells y hy,Typed.length d e y he (h2 y hy),rE (List.ne_nil_of_mem hy)]
    .rw[h4];cases ys with
     |nil=>simp at h1;subst h1;simp
     |cons y ys=>simp[sz]
    .intro j v hv;have:=h5 j v hv;rw[yCT,yAp]at this;exact⟨a,rfl,this,YX _⟩
    .intro j v p hv hp;rw[hflat]at hp;exact h3.EH.2 j v p hv hp
  .rename_i fs;simp only[yCd]at h;obtain⟨xs,n,rfl,_,hl,hn,hf⟩:=DataW.trod_struct hu hx;have key:∀(gs:List Field) (i:Nat) (off m:Nat),gs=fs.toList.drop i->AF (rD P d) P off gs=some m->m<=cs.length->off<=m/\∃ps,tP (Typed P d) gs ps/\lO w ((cs.drop off).take (m-off)) ps:=by
    intro gs
    induction gs with
    |nil=>
     intro i off m _ hp hm;simp only[AF,yAb]at hp;subst hp;exact⟨yAk _,[],rfl,by simpa using lO.nil⟩
    |cons g gs ih=>
     intro i off m hg hp hm;simp only[AF]at hp;split at hp
     .rename_i hc;have hgi:fs[i]?=some g:=by
       have:(fs.toList.drop i)[0]?=some g:=by rw[<-hg];rfl
       exact bq
      have hgs:gs=fs.toList.drop (i+1):=by
       rw[<-List.tail_drop,<-hg];rfl
      obtain⟨h1,ps,h2,h3⟩:=ih (i+1) _ m hgs hp hm;have h4:=hf i g hgi;have hlt:i<xs.length:=by
       rw[hn];exact(yDE.1 hgi).1
      rw[yAh hlt]at h4;obtain⟨qs,h5,h6⟩:=LH n d g.type _ _ h4 hc.2;refine⟨ye,qs++ps,⟨qs,ps,rfl,h5,h2⟩,?_⟩;rw[hc.1]at h6;have e:(cs.drop off).take (m-off)=(cs.drop off).take (P.cellsOf g.type)++(cs.drop (off+P.cellsOf g.type)).take (m-(off+P.cellsOf g.type)):=by
       have:m-off=P.cellsOf g.type+(m-(off+P.cellsOf g.type)):=ye;rw[this,List.take_add,yBI]
      rw[e];exact h6.append h3
     .cases hp
   obtain⟨_,ps,h1,h2⟩:=key fs.toList 0 0 _ yg h ye;refine⟨ps,h1,?_⟩;simpa [<-hl]using h2
  .rename_i n e;simp only[yAr,yCd]at h;obtain⟨xs,m,rfl,_,hl,hn,hf⟩:=DataW.trod_array hu hx;have key:∀(k i:Nat),i+k=n->∃ys:List (List PD),ys.length=k/\(∀y∈ys,Typed P d e y)/\lO w (cs.drop (i*P.cellsOf e)) ys.flatten:=by
    intro k
    induction k with
    |zero=>
     intro i hi;have:cs.drop (i*P.cellsOf e)=[]:=yAs (by rw[hl,h.2];simp at hi;subst hi;omega);exact⟨[],rfl,yg,by rw[this];exact lO.nil⟩
    |succ k ih=>
     intro i hi;obtain⟨ys,h1,h2,h3⟩:=ih (i+1) ye;have h4:=hf i ye;have hlt:i<xs.length:=ye;rw[yAh hlt]at h4;obtain⟨qs,h5,h6⟩:=LH m d e _ _ h4 h.1;refine⟨qs::ys,by simp[h1],by simpa using⟨h5,h2⟩,?_⟩;rw[yBr];have e':cs.drop (i*P.cellsOf e)=(cs.drop (i*P.cellsOf e)).take (P.cellsOf e)++cs.drop ((i+1)*P.cellsOf e):=by
      rw[yBQ,<-yBI,List.take_append_drop]
     rw[e'];exact h6.append h3
   obtain⟨ys,h1,h2,h3⟩:=key n 0 ye;exact⟨_,⟨ys,h1,h2,rfl⟩,Dr⟩
  .cases h
end
end
section
open Go.RowKit
section
variable{H:Type}{enc:TypeId×Value->H}{P:Program}{w:World}{base:Nat}{sp:Nat->Bool}{held:Bool}
theorem YE{n:Nat}{t:TypeId}{v:Value}{d:DataW H}{ms:List MemPlace}(hp:rD P n t=true)(hv:Value.okWide P w .any base t v)(h:DataW.Trod enc P w 0 sp held t v d ms) :
  ∃qs,Typed P n t qs/\VR (.start w) v (l6 P t qs):=by
 obtain⟨fuel,h⟩:=h;obtain⟨qs,h1,h2⟩:=LH fuel n t _ _ h hp;refine⟨qs,h1,?_⟩;have hlen:=Typed.length n t qs hp h1;cases n with
 |zero=>cases hp
 |succ n=>
  have cell:fB P t=some false->(∀cs,v≠.agg cs)->VR (.start w) v (l6 P t qs):=λha hna=>by
   have hc:v.cells=#[v]:=by
    cases v<;>first|rfl|exact absurd rfl (hna _)
   rw[hc]at h2;obtain⟨hl,hr⟩:=h2.EH
   match qs,hl with
   | [q],_=>
     have:=hr 0 v q rfl rfl;simpa only[l6,ha,List.headD_cons]using this
  have row:fB P t=some true->(∃cs,v=.agg cs)->VR (.start w) v (l6 P t qs):=λha ⟨cs,e⟩=>by
   subst e;have:=h2.agg;simpa only[l6,ha,Value.cells]using this
  unfold rD at hp;unfold Value.okWide at hv;split at hp<;>rename_i hu
  .exact di
  .exact di
  .exact di
  .exact di
  .exact qm
  .exact qm
  .cases hp
end
section
variable{P:Program}
theorem oB{d:Nat}{t:TypeId}{k:IntKind}{qs:Ey}(hu:P.underlying t=some (.int k))(h:Typed P (d+1) t qs):∃n,qs=[.int k n]/\(Lit.int k n).wf=true:=by
 simpa only[Typed,hu]using h
theorem YM{d:Nat}{t:TypeId}{qs:Ey}(hu:P.underlying t=some .bool)(h:Typed P (d+1) t qs):∃b,qs=[.bool b]:=by
 simpa only[Typed,hu]using h
theorem G5{d:Nat}{t:TypeId}{fs:Array Field}{qs:Ey}(hu:P.underlying t=some (.struct fs))(h:Typed P (d+1) t qs):tP (Typed P d) fs.toList qs:=by
 simpa only[Typed,hu]using h
theorem K6{α:Type}{em:Em α}{R:α->Prop}{d:Nat}{t e:TypeId}{k:Nat}{qs:Ey}(hu:P.underlying t=some (.slice e))(hk:P.cellsOf e=k)(hf:∀x,Typed P d e x->∃y,l6 P e x=em.aA y/\R y)(h:Typed P (d+1) t qs) :
  ∃ys,qs=[(em.list k).aA ys]/\ys.length<=maxLen/\∀y∈ys,R y:=by
 simp only[Typed,hu]at h;obtain⟨xs,h1,h2,rfl⟩:=h;have key:∀xs:List (List PD),(∀x∈xs,Typed P d e x)->∃ys:List α,ys.length=xs.length/\xs.map (l6 P e)=ys.map em.aA/\∀y∈ys,R y:=by
  intro xs
  induction xs with
  |nil=>intro _;exact⟨[],rfl,rfl,yg⟩
  |cons x xs ih=>
   intro hx;obtain⟨ys,h3,h4,h5⟩:=ih (λz hz=>hx z (by simp[hz]));obtain⟨y,h6,h7⟩:=hf x (hx x yg);exact⟨y::ys,by simp[h3],by simp[h4,h6],by simpa using⟨h7,h5⟩⟩
 obtain⟨ys,h3,h4,h5⟩:=key xs h2;refine⟨ys,?_,ye,h5⟩;rw[aV,h4,hk];have:sz k xs=sz k ys:=by simp only[sz,h3]
 rw[this]
theorem G7{t:TypeId}{qs:Ey}(ha:fB P t=some true):l6 P t qs=.agg qs:=by simp only[l6,ha]
theorem mR{T:TypeId->List PD->Prop}{f:Field}{fs:List Field}{ps:Ey}(h:tP T (f::fs) ps):∃a b,ps=a++b/\T f.type a/\tP T fs b:=h
theorem G6{T:TypeId->List PD->Prop}{ps:Ey}(h:tP T [] ps):ps=[]:=h
theorem wf_u8{z:Int}(hz:(Lit.int .u8 z).wf=true):0<=z/\z<=255:=by
 simp only[Lit.wf,IntKind.min,IntKind.max,IntKind.signed,IntKind.bits]at hz;simp at hz;omega
theorem aFx{c:Cx}:aS c [] []:=⟨rfl,yg⟩
theorem YG{c:Cx}{v:Value}{p:PD}{vs:Fa}{ps:Ey}(h:VR c v p)(hs:aS c vs ps):aS c (v::vs) (p::ps):=
 ⟨by simp[hs.1],λi u d hu hd=>by
  cases i with
  |zero=>simp at hu hd;subst hu hd;exact h
  |succ i=>exact hs.2 i u d Dm Dk⟩
end
end
section
section
variable{α:Type}{l r:List α}{x y:α}{n:Nat}
end
end
@[simp] theorem aRp{α:Type}{k:Nat}{xs:List α}:sz (sz k xs) xs=sz k xs:=by
  unfold sz;split<;>rfl
def jR(σ:List aB)(tok:Tok)(e:TypeId)(k n:Nat):Prop:=(n=0/\tok=.full)\/(0<n/\∃id,tok=.own id/\σ[id]?=some (.own e k n))
def Tok.not(tok:Tok)(id:Nat):Prop:=tok≠.own id
theorem jR.bF{σ σ':Ex}{tok:Tok}{e:TypeId}{k n:Nat}(h:jR σ tok e k n)(hk:∀id o,tok=.own id->σ[id]?=some o->σ'[id]?=some o):jR σ' tok e k n:=by
 rcases h with h | ⟨h0,id,h1,h2⟩
 .exact .inl h
 .exact .inr ⟨h0,id,h1,hk id _ h1 h2⟩
theorem jR.more{σ τ:Ex}{tok:Tok}{e:TypeId}{k n:Nat}(h:jR σ tok e k n):jR (σ++τ) tok e k n:=
 h.bF λid o _ h=>by
  exact kf
theorem CH{P:Program}{σ:Ex}{t e:TypeId}{k b s:Nat}{xs:Ey}{p:PD}{tk tok:Tok}(hu:P.underlying t=some (.slice e))(hi:fT P e=some (k,b))(hs:xs=[]\/s=k)(hr:jR σ tok e k xs.length)
  (hm:xs.length+1<=100000000000000) (hb:(xs.length+1)*b<=140737488355328) :
  ∃fG σ',fA P 0 σ t (.slice s xs tok) (.slice k [p] tk)=some (.slice k (xs++[p]) fG,σ')/\jR σ' fG e k (xs.length+1)/\(∀id o,tok≠.own id->σ[id]?=some o->σ'[id]?=some o)/\(∀id,fG=.own id->tok=.own id\/id=σ.length):=by
 unfold fT at hi;split at hi
 .rename_i i h1;split at hi
  .rename_i z h2;split at hi
   .rename_i h3;simp only[yAb,yAc]at hi;obtain⟨rfl,rfl⟩:=hi;have hs':xs.length=0\/s=i.size:=hs.imp (λh=>Ah) (λh=>h);have e1:[p].length=1:=rfl;have hmm:xs.length+1<=maxLen:=zi;rcases hr with⟨hn,rfl⟩ | ⟨hpos,id,rfl,hid⟩
    .refine⟨.own σ.length,σ++[.own e i.size (xs.length+1)],?_,.inr ⟨ye,_,rfl,yAB⟩,λid o _ h=>?_,λid h=>?_⟩
     .simp only[fA,hu,h1,h2,e1,hs',h3.2,h3.1,hmm,hb,yBZ,yBx,yAK,yDD,yAN]
     .rw[yAg (yA.1 h).1];exact h
     .right;simpa using h.symm
    .have hlt:=(yA.1 hid).1;have hsz:s=i.size:=hs'.resolve_left ye;refine⟨.own id,σ.set id (.own e i.size (xs.length+1)),?_,.inr ⟨ye,id,rfl,by rw[yAj hlt]⟩,λj o hj h=>?_,λj h=>.inl h⟩
     .simp only[fA,hu,h1,h2,e1,h3.2,h3.1,hmm,hb,yBZ,yBx,yAK,yDD,yAN,hsz,yAF,hid]
     .have hne:id≠j:=λe=>hj Cc
      rw[yAd hne];exact h
   .cases hi
  .cases hi
 .cases hi
theorem aFL{P:Program}{σ:Ex}{t e:TypeId}{k b s:Nat}{p:PD}{tk:Tok}(hu:P.underlying t=some (.slice e))(hi:fT P e=some (k,b))(hb:b<=140737488355328) :
  fA P 0 σ t (.slice s [] .full) (.slice k [p] tk)=some (.slice k [p] (.own σ.length),σ++[.own e k 1]):=by
 unfold fT at hi;split at hi
 .rename_i i h1;split at hi
  .rename_i z h2;split at hi
   .rename_i h3;simp only[yAb,yAc]at hi;obtain⟨rfl,rfl⟩:=hi;have hm:0+1<=maxLen:=zi;have hb':(0+1)*i.bytes<=140737488355328:=ye;simp[fA,hu,h1,h2,h3.2,h3.1];exact⟨zi,hb⟩
   .cases hi
  .cases hi
 .cases hi
theorem aFM{P:Program}{σ:Ex}{t e:TypeId}{id k b:Nat}{xs:Ey}{p:PD}{tk:Tok}(hu:P.underlying t=some (.slice e))(hi:fT P e=some (k,b))(hr:σ[id]?=some (.own e k xs.length))
  (hm:xs.length+1<=100000000000000) (hb:(xs.length+1)*b<=140737488355328) :
  fA P 0 σ t (.slice k xs (.own id)) (.slice k [p] tk)=some (.slice k (xs++[p]) (.own id),σ.set id (.own e k (xs.length+1))):=by
 unfold fT at hi;split at hi
 .rename_i i h1;split at hi
  .rename_i z h2;split at hi
   .rename_i h3;simp only[yAb,yAc]at hi;obtain⟨rfl,rfl⟩:=hi;have e1:[p].length=1:=rfl;have hmm:xs.length+1<=maxLen:=zi;simp only[fA,hu,h1,h2,e1,h3.2,h3.1,hmm,hb,yBZ,yBx,yAK,yDD,yAN,yAF,hr]
   .cases hi
  .cases hi
 .cases hi
section
def HI:Op->Bool
 |.box ..=>true
 |.call { callee:=.builtin .append,.. }=>true
 |.call { callee:=.builtin .copy,.. }=>true
 |_=>false
def EG(ops:Array Oper):Bool:=r9 ops.toList [] λms=>
 (List.range ops.size).all λi=>!dZ HI ops.toList i||jC ops.toList ms i
section
variable{P:Program}{E:aE}{fl:Nat}{fr:Ey}{σ:Ex}
theorem aFJ(hU:aH E){tg:FuncId ⊕ Nat}{args:Ey}{x:PD×Ex}(h:kX E fl tg args σ=some x):eK E fl tg args σ=some x:=by
 cases tg with
 |inr id=>cases h
 |inl f=>
  simp only[kX]at h;split at h
  .rename_i g hg;split at h
   .rename_i p hp;simp only[yAb]at h;subst h;simp only[eK,hg];exact hU f g args p hg hp fl σ
   .cases h
  .cases h
theorem aFK(hU:aH E){op:Op}{x:PD×Ex}(h:bX P (kX E) fl fr σ op=some x):bX P (eK E) fl fr σ op=some x:=by
 unfold bX at *;cases hc:fJ fr op with
 |some q=>
  obtain⟨tg,args⟩:=q;simp only[hc]at h ⊢;exact aFJ hU h
 |none=>
  simp only[hc]at h ⊢;exact h
theorem LD(hU:aH E){ops:Fc}:∀(l:List Oper) (i:Nat) (fr:List PD) (σ:List aB) (x:Ey×List aB),ops.toList.drop i=l->EG ops=true ->
  dE P (kX E) fl ops l fr σ=some x->lN P (eK E) fl ops (flags ops i l) fr σ=some x
 | [],_,_,_,_,_,_,h=>h
 |o::l,i,fr,σ,x,hd,hm,h=>by
  have ho:ops.toList[i]?=some o:=by
   exact vn
  have hd':ops.toList.drop (i+1)=l:=Dp;have hi:i<ops.size:=by
   have:=(yA.1 ho).1;exact bq
  have hown:HI o.op=false\/wK ops i=true:=by
   exact js
  simp only[dE]at h;simp only[flags,lN];split at h
  .rename_i hw;rw[yAJ hw];split at h
   .rename_i p σ1 hp;cases hf:(!cU o.op||wK ops i)with
    |true=>
     simp only[aFK hU hp];exact LD hU l (i+1) _ _ _ hd' hm h
    |false=>
     simp only[yDX,Bool.not_eq_false']at hf;obtain⟨jD,uY⟩:=hf;rw[uY]at hown;have hop:HI o.op=false:=by simpa using hown
     obtain⟨e1,e2⟩:=LF (P:=P) hU (dT:=max fl σ.length) (op:=o.op) (by
      cases hq:o.op with
      |box t x=>rw[hq]at hop;cases hop
      |call c=>
       obtain⟨callee,args,ts⟩:=c;cases callee with
       |builtin b=>cases b<;>first|rfl|(rw[hq]at hop;cases hop)
       |value f=>rfl
       |invoke r m=>rfl
      |_=>rfl) jD hp
     simp only at e2;subst e2;simp only[e1,yCm,yAl];exact LD hU l (i+1) _ _ _ hd' hm h
   .cases h
  .rename_i hw;rw[yAI hw];exact LD hU l (i+1) _ _ _ hd' hm h
theorem WL.HF{rd:Option Nat}{ms:List Nat}{Q:PO->Prop}{ops:Fc}{id:Nat}(hU:aH E)(_hd:CG ops=true)(hs:(tO ops&&EG ops)=true)(h:SQ P (kX E) fl ops ops.toList fr σ (λfr' σ'=>Q ⟨.normal,fr',ms,σ'⟩)) :
  Wp P E rd (.region id ops true) fl fr ms σ Q:=by
 simp only[yAr,LG]at hs;obtain⟨fr',σ',h1,h2⟩:=h.ex;exact .draw hs.1 (LD hU _ 0 _ _ _ yg hs.2 h1) h2
end
end
section
def IN(ops:Array Oper):Bool:=ops.toList.all λo=>!cE o.op||o.guard.isNone
def RZ(ops:Array Oper):Bool:=r9 ops.toList [] λms=>
 tT ops ms&&(List.range ops.size).all λk=>!dZ eW ops.toList k||(List.range ops.size).all λi=>!dZ dM ops.toList i||!loose ms i k
section
variable{P:Program}{E:aE}{fl:Nat}{fr:Ey}{σ:Ex}
theorem aAJ(hU:aH E){dT:Nat}{σ2:Ex}{op:Op}{x:PD×Ex}(hop:(match op with
 |.box ..=>false
 |.call { callee:=.builtin .append,.. }=>false
 |.call { callee:=.builtin .copy,.. }=>false
 |_=>true)=true) (hm:cU op=true) (h:bX P (kX E) fl fr σ op=some x):bX P (eK E) dT fr σ2 op=some (x.1,σ2)/\x.2=σ:=by
 refine⟨?_,(LF hU (dT:=0) hop hm h).2⟩;unfold bX at *;cases hc:fJ fr op with
 |some q=>
  obtain⟨tg,args⟩:=q;simp only[hc]at h ⊢;cases tg with
  |inr id=>cases h
  |inl f=>
   simp only[kX]at h;split at h
   .rename_i g hg;split at h
    .rename_i p hp;simp only[yAb]at h;subst h;simp only[eK,hg];exact hU f g args p hg hp dT σ2
    .cases h
   .cases h
 |none=>
  exact dw
theorem aHW{t:TypeId}{a p:PD}(hs:List aB)(h:oM P σ t a=some p):oM P (σ++hs) t a=some p:=
 ZP h λid e=>by
  rw[yAg (ZQ h e)]
theorem aHX{t:TypeId}{a p:PD}{σ':Ex}(hs:List aB)(h:pH P fl σ t a p=some σ'):pH P fl (σ++hs) t a p=some (σ'++hs):=by
 unfold pH at h ⊢;split at h
 .rename_i id off
  by_cases h1:fl<=id
  .rw[yAJ h1]at h ⊢;cases hq:σ[id]? with
   |none=>simp[hq]at h
   |some o=>
    have hlt:id<σ.length:=(yA.1 hq).1;rw[yAg hlt,hq];rw[hq]at h;cases o with
    |box q=>
     cases hz:bT P t with
     |none=>rw[hz]at h;cases h
     |some n=>
      rw[hz]at h;simp only at h ⊢;split at h
      .rename_i hc;rw[yAJ hc];cases hset:q.setCells off p.cells with
       |none=>rw[hset]at h;cases h
       |some q'=>
        rw[hset]at h;exact tw
      .cases h
    |_=>cases h
  .rw[yAI h1]at h;cases h
 .rename_i id ver off
  by_cases h1:fl<=id
  .rw[yAJ h1]at h ⊢;cases hq:σ[id]? with
   |none=>simp[hq]at h
   |some o=>
    have hlt:id<σ.length:=(yA.1 hq).1;rw[yAg hlt,hq];rw[hq]at h;cases o with
    |row e sz eX cs=>
     cases hz:bT P t with
     |none=>rw[hz]at h;cases h
     |some n=>
      rw[hz]at h;simp only at h ⊢;split at h
      .rename_i hc;rw[yAJ hc];exact tw
      .cases h
    |_=>cases h
  .rw[yAI h1]at h;cases h
 .cases h
theorem IP(hU:aH E){n:Nat}{ops:Fc}(ms:List Nat)(hsh:∀(i:Nat) o,ops[i]?=some o->(dW o.op||dM o.op||cE o.op||kY o.op||dN o.op)=true)(hno:yF ops=true)(hsu:IN ops=true) :
  ∀(l:List Oper) (i:Nat) (fr:List PD) (σ:List aB) (x:Ey×List aB),ops.toList.drop i=l->dE P (kX E) fl ops l fr σ=some x ->
   ∃hs tr,lA P l=some hs/\eL P (dG P E n) fl ops ms i σ.length l fr (σ++hs)=some (tr,x.1,x.2)
 | [],_,fr,σ,x,_,h=>by
   simp only[dE,yAb]at h;subst h;exact⟨[],[],rfl,by simp[eL]⟩
 |o::l,i,fr,σ,x,hd,h=>by
  have ho:ops[i]?=some o:=by
   exact vn
  have hd':ops.toList.drop (i+1)=l:=Dp;have hmem:o∈ops.toList:=yCc.2 (yDC ho);have hshape:=hsh i o ho;have hown:=yAn.1 hno o hmem;have hsure:=yAn.1 hsu o hmem;simp only[dE]at h
  by_cases hal:cE o.op=true
  .have hg:o.guard=none:=by
    rw[hal]at hsure;simpa using hsure
   have hw:Region.wanted o (bM ops fr)=true:=by simp[Region.wanted,hg]
   rw[yAJ hw]at h;obtain⟨t,ht⟩:∃t,o.op=.alloc t:=by
    unfold cE at hal;split at hal
    .rename_i t e;exact⟨t,e⟩
    .cases hal
   rw[ht]at h;have hst:bX P (kX E) fl fr σ (.alloc t)=(match eE P t with|some p=>if p.cells.all PD.plain then some (.ptr σ.length 0,σ++[.box (boxed t p)])else none|none=>none):=rfl;rw[hst]at h;cases hz:eE P t with
   |none=>rw[hz]at h;cases h
   |some p0=>
    rw[hz]at h;simp only at h
    by_cases hp:p0.cells.all PD.plain=true
    .rw[yAJ hp]at h;simp only at h;obtain⟨hs,tr,e1,e2⟩:=IP hU (n:=n) ms hsh hno hsu l (i+1) _ _ x hd' h;refine⟨.box (boxed t p0)::hs,⟨fr,σ++.box (boxed t p0)::hs,.ptr σ.length 0,j6 fr o.op⟩::tr,?_,?_⟩
     .unfold lA;rw[ht];simp only[hz,e1,hp,yAK]
     .simp only[eL,hw,yAK,hal];have hA:dW o.op=false:=by rw[ht];rfl
      have hp':fL P (dG P E n) fl (jC ops.toList ms i) σ.length fr (σ++.box (boxed t p0)::hs) o.op=some (.ptr σ.length 0,σ++.box (boxed t p0)::hs):=by
       unfold fL;rw[hA,hal];simp
      rw[hp'];simp only;rw[yAa,yDK,yAi,List.singleton_append]at e2;rw[e2]
    .rw[yAI hp]at h;cases h
  .simp only[yCu]at hal;have hho:∀hs,lA P l=some hs->lA P (o::l)=some hs:=λhs e=>by
    unfold lA;split
    .rename_i t ht;rw[ht]at hal;cases hal
    .exact e
   by_cases hw:Region.wanted o (bM ops fr)=true
   .rw[yAJ hw]at h;cases hp:bX P (kX E) fl fr σ o.op with
    |none=>rw[hp]at h;cases h
    |some q=>
     obtain⟨p,σ1⟩:=q;rw[hp]at h;simp only at h;obtain⟨hs,tr,e1,e2⟩:=IP hU (n:=n) ms hsh hno hsu l (i+1) _ _ x hd' h;have key:fL P (dG P E n) fl (jC ops.toList ms i) σ.length fr (σ++hs) o.op=some (p,σ1++hs)/\σ1.length=σ.length:=by
      have hpd:=L3 (P:=P) (call:=dG P E n) (fl:=fl) (k:=σ.length) (free:=jC ops.toList ms i) (fr:=fr) (σ:=σ++hs) hshape hal;rw[hpd]
      by_cases hm:cU o.op=true
      .obtain⟨_,e3⟩:=aAJ (P:=P) hU (dT:=fl) (σ2:=σ++hs) hown hm hp;simp only at e3;subst e3;have e4:=λf=>LZ (n:=n) (aAJ (P:=P) hU (dT:=f) (σ2:=σ1++hs) hown hm hp).1
       simp only at e4;cases(!cU o.op||jC ops.toList ms i)with
       |true=>exact⟨e4 fl,rfl⟩
       |false=>
        simp only;rw[e4];simp
      .simp only[yCu]at hm;have hm2:=hm;rw[hm];simp only[yCn,yDl];rw[Y3 (call':=kX E) hm];unfold bX pop at hp ⊢;have hcal:fJ fr o.op=none:=by
        cases hop:o.op with
        |call c=>
         obtain⟨callee,args,ts⟩:=c;rw[hop]at hm2;cases callee with
         |value f=>simp[cU]at hm2
         |invoke r m=>rfl
         |builtin b=>rfl
        |_=>rfl
       rw[hcal]at hp ⊢;simp only at hp ⊢;cases hv:dL P fr o.op with
       |some q=>
        rw[hv]at hp;exact fo
       |none=>
        rw[hv]at hp;simp only at hp ⊢;have aHY:dM o.op=true\/kY o.op=true\/eW o.op=true\/dW o.op=true:=by
         simp only[hal,dN,hm2,yDH,yBp]at hshape;rcases hshape with((h|h)|h)|h
         .exact .inr (.inr (.inr h))
         .exact .inl h
         .exact .inr (.inl h)
         .exact .inr (.inr (.inl h))
        rcases aHY with hl|hl|hl|hl
        .cases hop:o.op with
         |load t y=>
          rw[hop]at hp;simp only[cJ]at hp ⊢;cases he:aX fr y with
          |none=>rw[he]at hp;cases hp
          |some a=>
           rw[he]at hp;simp only at hp ⊢;cases hlo:oM P σ t a with
           |none=>rw[hlo]at hp;cases hp
           |some q=>
            rw[hlo]at hp;rw[aHW hs hlo];exact fo
         |convert s d y=>
          rw[hop]at hp;simp only[cJ]at hp ⊢;split at hp
          .rename_i htc;rw[yAJ htc];split at hp
           .rename_i ad had;split at hp
            .exact qf
            .split at hp
             .rename_i q hq;obtain⟨xs,hxs⟩:=QZ hq;rw[ZS (σ':=σ++hs) hq (λid hid=>yAg (ZR hxs hid))];exact qf
             .cases hp
           .cases hp
          .cases hp
         |_=>rw[hop]at hl;simp[dM]at hl
        .cases hop:o.op with
         |buildSlice t len parts=>
          rw[hop]at hp;simp only[cJ]at hp ⊢;cases hps:pI fr parts.toList with
          |none=>rw[hps]at hp;cases hp
          |some ps=>
           rw[hps]at hp;simp only at hp ⊢;cases hq:sE P t len (List.map (λq=>(q.fst,q.snd.strip)) ps)with
           |none=>rw[hq]at hp;cases hp
           |some q=>
            rw[hq]at hp;exact fo
         |makeSlice t x y=>
          rw[hop]at hp hl;obtain⟨q,hq⟩:=Q4 (P:=P) hl;simp only[hq]at hp ⊢;cases q with
          |none=>cases hp
          |some q=>
           simp only[yAC,yAb,yAc]at hp ⊢;obtain⟨rfl,rfl⟩:=hp;exact⟨⟨rfl,rfl⟩,rfl⟩
         |_=>rw[hop]at hl;simp[kY]at hl
        .cases hop:o.op with
         |store t y z=>
          rw[hop]at hp;simp only[cJ]at hp ⊢;cases he:aX fr y with
          |none=>rw[he]at hp;cases hp
          |some a=>
           cases hez:aX fr z with
           |none=>rw[he,hez]at hp;cases hp
           |some b=>
            rw[he,hez]at hp;simp only at hp ⊢;cases hst:pH P fl σ t a b with
            |none=>rw[hst]at hp;cases hp
            |some q=>
             rw[hst]at hp;rw[aHX hs hst];simp only[yAb,yAc]at hp ⊢;obtain⟨rfl,rfl⟩:=hp;refine⟨⟨rfl,rfl⟩,?_⟩;unfold pH at hst;split at hst
             .split at hst
              .exact ff
              .cases hst
             .exact ff
             .cases hst
         |_=>rw[hop]at hl;simp[eW]at hl
        .rw[ZC hl]at hp;cases hp
     refine⟨hs,⟨fr,σ++hs,p,j6 fr o.op⟩::tr,hho hs e1,?_⟩;simp only[eL,hw,yAK,hal,yAx,yAN];rw[key.1];simp only;rw[key.2]at e2;rw[e2]
   .simp only[yCu]at hw;rw[hw]at h;simp only[yAx,yAN]at h;obtain⟨hs,tr,e1,e2⟩:=IP hU (n:=n) ms hsh hno hsu l (i+1) _ _ x hd' h;refine⟨hs,⟨fr,σ++hs,.aP [],none⟩::tr,hho hs e1,?_⟩;simp only[eL,hw,yAx,yAN,hal];rw[e2]
theorem aHZ(hU:aH E){n:Nat}{ops:Fc}{x:Ey×Ex}(hs:(RZ ops&&yF ops&&IN ops)=true)(h:dE P (kX E) fl ops ops.toList fr σ=some x):mU P (dG P E n) fl ops fr σ=some x:=by
 simp only[yAr,RZ]at hs;obtain⟨⟨h1,h2⟩,h3⟩:=hs;rw[oE]at h1;simp only[yAr]at h1;obtain⟨hreg,hfeet⟩:=h1;have hr:=AM hreg;obtain⟨hs,tr,e1,e2⟩:=IP (n:=n) hU (bW ops.toList []) (λi o ho=>hr.shape i o ho) h2 h3 ops.toList 0 fr σ x yg h;unfold mU;simp only[hreg,yAK,e1,e2];have hfo:oP ops.toList (bW ops.toList []) tr=true:=by
  simp only[oP,yAn,yAU];simp only[yAn,yAU]at hfeet;intro k hk;have h1:=hfeet k Dy;cases hs:dZ eW ops.toList k with
  |false=>simp
  |true=>
   rw[hs]at h1;simp only[yBR,yCf,yAn,yAU]at h1 ⊢;intro i hi;have h2:=h1 i Dn;rw[h2];simp
 rw[yAJ hfo]
theorem WL.HG{rd:Option Nat}{ms:List Nat}{Q:PO->Prop}{ops:Fc}{id:Nat}{y:Code}(hU:aH E)(_hd:CG ops=true)(hs:(RZ ops&&yF ops&&IN ops)=true)(h:SQ P (kX E) fl ops ops.toList fr σ (λfr' σ'=>Wp P E rd y fl fr' ms σ' Q)) :
  Wp P E rd (.seq (.region id ops true) y) fl fr ms σ Q:=by
 obtain⟨fr',σ',h1,h2⟩:=h.ex;exact .seq ⟨_,.draw (N:=0) (λn _=>aHZ hU hs h1),.normal h2⟩
end
end
section
open Go
abbrev dQ:=Nat->Option Nat
def R0:Op->Option Tmp
 |.fieldAddr _ (.tmp u) _=>some u
 |.nilCheck (.tmp u)=>some u
 |.move (.tmp u)=>some u
 |_=>none
def dQ.next(ρ:dQ)(o:Oper):dQ:=match o.dst with
 |none=>ρ
 |some d=>λt=>if d=t then(match R0 o.op with
  |some u=>ρ u
  |none=>none)else ρ t
def dQ.iJ(ρ:dQ):Op->Option Nat
 |.load _ (.tmp t)=>ρ t
 |.store _ (.tmp t) _=>ρ t
 |_=>none
def yW:dQ->List Oper->List (Option Nat)
 |_,[]=>[]
 |ρ,o::l=>ρ.iJ o.op::yW (ρ.next o) l
def dQ.ok(ρ:dQ)(fr:List PD):Prop:=∀t id id',ρ t=some id->gJ (fr.getD t (.aP []))=some id'->id'=id
def dQ.of:List (Nat×Nat)->dQ
 | []=>λ_=>none
 |x::l=>λt=>if x.1=t then some x.2 else dQ.of l t
def dQ.at(fr:List PD):List (Nat×Nat)->Prop
 | []=>True
 |x::l=>(∃off,lk fr x.1=some (.ptr x.2 off))/\dQ.at fr l
theorem dQ.aAK{fr:Ey}:∀(l:List (Nat×Nat)),dQ.at fr l->(dQ.of l).ok fr
 | [],_=>λ_ _ _ h=>yw
 |x::l,⟨⟨off,h1⟩,h2⟩=>λt id id' h h'=>by
  unfold dQ.of at h
  by_cases e:x.1=t
  .rw[yAJ e]at h;simp only[yAb]at h;rw[LN,e]at h1;rw[yAA,h1]at h';simp only[yDk,gJ,yAb]at h';rw[<-h',h]
  .rw[yAI e]at h;exact dQ.aAK l h2 t id id' h h'
section
variable{P:Program}{call:bY}{fl:Nat}{ops:Fc}
theorem dQ.aH0{ρ:dQ}{fr:Ey}(h:ρ.ok fr){op:Op}{a b:Nat}(h1:j6 fr op=some a)(h2:ρ.iJ op=some b):a=b:=by
 unfold dQ.iJ at h2;split at h2
 .rename_i t;simp only[j6,aX]at h1;exact h _ _ _ h2 h1
 .rename_i t;simp only[j6,aX]at h1;exact h _ _ _ h2 h1
 .cases h2
theorem dQ.aAL{ρ:dQ}{fr:Ey}(h:ρ.ok fr){o:Oper}{p:PD}
  (hp:∀u,R0 o.op=some u->∀id,gJ p=some id->gJ (fr.getD u (.aP []))=some id):(ρ.next o).ok (aW fr o.dst p):=by
 intro t id id' h1 h2;unfold dQ.next at h1;cases hd:o.dst with
 |none=>
  rw[hd]at h1 h2;exact h t id id' h1 h2
 |some d=>
  rw[hd]at h1 h2;simp only[aW]at h1 h2
  by_cases e:d=t
  .rw[yAJ e]at h1;have hpt:gJ p=some id':=by
    subst e;rw[yAA]at h2
    by_cases hlt:d<fr.length
    .rw[yAj hlt]at h2;simpa using h2
    .rw[yBF (by rw[yAD];exact Nat.le_of_not_lt hlt)]at h2;cases h2
   split at h1
   .rename_i u ho;exact h u id id' h1 (hp u ho _ hpt)
   .cases h1
  .rw[yAI e]at h1;rw[yAA,yAd e]at h2;exact h t id id' h1 (by rw[yAA];exact h2)
theorem aH1{s:TypeId}{x p:PD}{f id:Nat}(h:AH P s x f=some p)(hp:gJ p=some id):gJ x=some id:=by
 unfold AH at h
 repeat' split at h
 all_goals first
  |(simp only[yAb]at h;subst h;exact hp)
  |(cases h;done)
def wY(ops:Array Oper):Bool:=r9 ops.toList [] λms=>tT ops ms
end
section
variable{P:Program}{E:aE}{fl:Nat}{fr:Ey}{σ:Ex}
end
end
section
open Go
section
variable{P:Program}{call:bY}{fl:Nat}{ops:Fc}{l:List Oper}{fr aQ:Ey}{σ σ1:Ex}{K:List PD->List aB->Prop}
variable{dst:Option Tmp}{x y:Operand}{t u ty:TypeId}{pos:String}{edges:Array Edge}{guard:Option (Nat×Bool)}{p r:PD}{bs:Ez}
end
end
mutual
def PD.flat:PD->Bool
 |.bool _|.int _ _|.str _|.fV|.iB|.fF _=>true
 |.agg cs=>PD.C6 cs
 |.aP cs=>PD.C6 cs
 |_=>false
def PD.C6:List PD->Bool
 | []=>true
 |x::xs=>x.flat&&PD.C6 xs
end
theorem PD.aAM:∀xs:List PD,PD.C6 xs=xs.all PD.flat
 | []=>by simp[PD.C6]
 |x::xs=>by simp[PD.C6,PD.aAM xs]
theorem VR.flat{c c':Cx}{v:Value}{p:PD}(hv:VR c v p):p.flat=true->VR c' v p:=by
 have at_:∀ {ds:Ey} {i:Nat} {d:PD},PD.C6 ds=true->ds[i]?=some d->d.flat=true:=by
  intro ds i d h hd;rw[PD.aAM]at h;exact yAn.1 h d (yAE hd)
 induction hv with
 |bool b=>intro _;exact .bool b
 |int k n=>intro _;exact .int k n
 |str s=>intro _;exact .str s
 |agg cs ds hl h1 _ ih=>
  intro hp;simp only[PD.flat]at hp;exact tq
 |slice A n cap size xs tok dT hn hc hm hx hf h1 hcl _ ht ih=>intro hp;simp[PD.flat]at hp
 |ptr id off b hd hs hr=>intro hp;simp[PD.flat]at hp
 |cV id off n cap size b hd hs hr h1 h2=>intro hp;simp[PD.flat]at hp
 |aU id ver off n cap size b qL h1 h2=>intro hp;simp[PD.flat]at hp
 |dH id ver off b qL=>intro hp;simp[PD.flat]at hp
 |eO id b hd hn hr=>intro hp;simp[PD.flat]at hp
 |iface t v p _ ih=>intro hp;simp[PD.flat]at hp
 |eB ad dT ds off hl h1 hcl _ ih=>intro hp;simp[PD.flat]at hp
 |fV=>intro _;exact .fV
 |func f cs ds hl _ ih=>intro hp;simp[PD.flat]at hp
 |jH f cs ds hl _ ih=>intro hp;simp[PD.flat]at hp
 |iB=>intro _;exact .iB
 |fF v h=>intro _;exact .fF v h
 |yield id l hd hn hr=>intro hp;simp[PD.flat]at hp
 |aP cs ds hl _ ih=>
  intro hp;simp only[PD.flat]at hp;exact uf
def Cx.boxed(c:Cx)(a:Addr):Prop:=∃id p b,c.D id/\c.σ[id]?=some (.box p)/\c.ρ id=.pointer (some ⟨b,0,none⟩)/\a.block=b
def Cx.open(c:Cx):Cx:={ w:=c.w,ρ:=λ_=>undef,σ:=[],D:=λ_=>False,X:=λa=>c.av a\/c.boxed a }
structure Hd (R:Prop):Prop where
 out:R
theorem aC{X R G:Prop}(gx:X)(r:R)(h:X->Hd R->G:=by
  (intro gx hh
   (repeat(first
    |(refine Fr.i ?_;simp only[aW,yAY,yAZ];try rfl)
    |(refine By.i ?_;(focus(simp(disch:=first|omega|(simp;done)|(simp;omega)) [wrap_i64,wrap_u64,gx,entry,uV,bZ,eD,wH];first|done|rfl|exact⟨rfl,rfl⟩)))
    |(refine By.i ?_;simp(disch:=first|omega|(simp;done)|(simp;omega)) [wrap_i64,wrap_u64,gx,entry,uV,bZ,eD,wH];refine⟨ze,rfl⟩)
    |(refine Wt.i ?_;first|rfl|(focus(simp[gx,entry,uV,bZ,eD,wH];done)))
    |(refine Ns.i ?_;(try simp only[yAl,yAO,yAQ,yAi,yAa,yAS,yAT,yAp,Nat.reduceAdd]);rfl)|rfl
    |(apply SL.pass;(focus(refine Wt.i ?_;rfl)))|(apply SL.aFI;(focus decide +kernel))|(apply tv;(focus rfl))|apply SL.move|apply SL.assign|apply SL.load|apply SL.uW|apply tv|apply SL.make
    |apply SL.binOp|apply SL.append|(apply SL.aRo;(focus decide +kernel))|apply tv|apply SL.builtin|apply SL.fieldAddr|apply SL.indexAddr|apply tv|apply SL.extract|(apply tv;rotate_left;(focus rfl);rotate_right)|apply SL.uX|apply SL.pick|apply SL.store|apply SL.unOp|apply SL.convert|apply SL.index
    |apply SL.slice|apply SL.build|apply tv|apply SL.buildSlice|apply SL.box|apply SL.alloc|apply SL.makeFunc|apply tv|apply SQ.nil|(apply WL.CD;(focus decide +kernel))
    |(apply WL.AD yp;(focus decide +kernel);(focus decide +kernel))|(apply tv;(focus decide +kernel);(focus decide +kernel))|(apply WL.HB;(focus decide +kernel))
    |(apply WL.HC yp;(focus decide +kernel);(focus decide +kernel))|(apply WL.HD;(focus decide +kernel);(focus decide +kernel))|(apply tv yp;(focus decide +kernel);(focus decide +kernel))
    |(apply WL.HF yp;(focus decide +kernel);(focus decide +kernel))|(apply WL.HG yp;(focus decide +kernel);(focus decide +kernel))
    |(apply tv yp;(focus decide +kernel);(focus decide +kernel))|apply tv|(apply WL.ct;(focus rfl))|(apply WL.cf;(focus rfl))|refine gG.normal ?_|refine gG.ret ?_|refine gG.exit ?_
    |refine iP.normal ?_|refine iP.ret ?_|refine iP.here ?_|refine tv yj ?_|refine Wp.block ?_|refine Wp.skip ?_|refine Wp.ret ?_|refine Wp.exit ?_|refine bC.ret ?_|refine bC.exit ?_
    |refine mD.normal ?_|refine tv ?_|refine mD.exit ?_|refine Wp.seq (Wp.seq ?_)|refine Wp.seq (Wp.block ?_)|(refine Wp.seq ?_;apply WL.ct;(focus rfl))|(refine Wp.seq ?_;apply WL.cf;(focus rfl))))
   exact hh.out)):G:=h gx ⟨r⟩
theorem kH{X R G:Prop}(gx:X)(r:R)(h:X->Hd R->G:=by
  (intro gx hh
   (repeat(first
    |(refine Fr.i ?_;simp only[aW,yAY,yAZ];try rfl)
    |(refine By.i ?_;(focus(simp(disch:=first|omega|(simp;done)|(simp;omega)) [wrap_i64,wrap_u64,gx];first|done|rfl|exact⟨rfl,rfl⟩)))
    |(refine By.i ?_;simp(disch:=first|omega|(simp;done)|(simp;omega)) [wrap_i64,wrap_u64,gx];refine⟨ze,rfl⟩)
    |(refine Wt.i ?_;first|rfl|(focus(simp[gx];done)))
    |(refine Ns.i ?_;(try simp only[yAl,yAO,yAQ,yAi,yAa,yAS,yAT,yAp,Nat.reduceAdd]);rfl)|rfl
    |(apply SL.pass;(focus(refine Wt.i ?_;rfl)))|(apply tv;(focus rfl))|apply SL.move|apply SL.assign|apply SL.load|apply SL.uW|apply tv|apply SL.make|apply SL.binOp|apply SL.append
    |apply tv|apply SL.builtin|apply SL.fieldAddr|apply SL.indexAddr|apply tv|apply SL.extract|apply SL.uX|apply SL.pick|apply SL.store|apply SL.unOp|apply SL.convert|apply SL.index|apply SL.slice
    |apply SL.build|apply tv|apply SL.buildSlice|apply SL.box|apply SL.alloc|apply SL.makeFunc))
   exact hh.out)):G:=h gx ⟨r⟩
theorem AE{X R G:Prop}(gx:X)(r:R)(h:X->Hd R->G:=by
  (intro gx hh
   (repeat(first
    |(refine Fr.i ?_;simp only[aW,yAY,yAZ];try rfl)
    |(refine By.i ?_;(focus(simp(disch:=first|omega|(simp;done)|(simp;omega)) [wrap_i64,wrap_u64,gx];first|done|rfl|exact⟨rfl,rfl⟩)))
    |(refine By.i ?_;simp(disch:=first|omega|(simp;done)|(simp;omega)) [wrap_i64,wrap_u64,gx];refine⟨ze,rfl⟩)
    |(refine Wt.i ?_;first|rfl|(focus(simp[gx];done)))
    |(refine Ns.i ?_;(try simp only[yAl,yAO,yAQ,yAi,yAa,yAS,yAT,yAp,Nat.reduceAdd]);rfl)|rfl
    |(apply SL.pass;(focus(refine Wt.i ?_;rfl)))|(apply tv;(focus rfl))|apply SL.move|apply SL.assign|apply SL.load|apply SL.uW|apply tv|apply SL.make|apply SL.binOp|apply SL.append
    |apply tv|apply SL.builtin|apply SL.fieldAddr|apply SL.indexAddr|apply tv|apply SL.extract|apply SL.uX|apply SL.pick|apply SL.store|apply SL.unOp|apply SL.convert|apply SL.index
    |apply SL.slice|apply SL.build|(apply SL.LA;rotate_left;(focus rfl);rotate_right)|apply tv|apply SL.buildSlice|apply SL.box|apply SL.alloc|apply SL.makeFunc|apply SQ.nil
    |(apply WL.CD;(focus decide +kernel))|(apply WL.AD yp;(focus decide +kernel);(focus decide +kernel))|(apply tv;(focus decide +kernel);(focus decide +kernel))
    |(apply WL.HB;(focus decide +kernel))|(apply WL.HC yp;(focus decide +kernel);(focus decide +kernel))|(apply WL.HD;(focus decide +kernel);(focus decide +kernel))
    |(apply tv yp;(focus decide +kernel);(focus decide +kernel))|(apply WL.HF yp;(focus decide +kernel);(focus decide +kernel))
    |(apply WL.HG yp;(focus decide +kernel);(focus decide +kernel))|(apply tv yp;(focus decide +kernel);(focus decide +kernel))|apply tv|(apply WL.ct;(focus rfl))
    |(apply WL.cf;(focus rfl))|refine gG.normal ?_|refine gG.ret ?_|refine gG.exit ?_|refine iP.normal ?_|refine iP.ret ?_|refine iP.here ?_|refine tv yj ?_|refine Wp.block ?_
    |refine Wp.skip ?_|refine Wp.ret ?_|refine Wp.exit ?_|refine bC.ret ?_|refine bC.exit ?_|refine mD.normal ?_|refine tv ?_|refine mD.exit ?_|refine Wp.seq (Wp.seq ?_)
    |refine Wp.seq (Wp.block ?_)|(refine Wp.seq ?_;apply WL.ct;(focus rfl))|(refine Wp.seq ?_;apply WL.cf;(focus rfl))))
   exact hh.out)):G:=h gx ⟨r⟩
theorem CF{X R G:Prop}(gx:X)(r:R)(h:X->Hd R->G:=by
  (intro gx hh
   (repeat(first
    |(refine Fr.i ?_;simp only[aW,yAY,yAZ];try rfl)
    |(refine By.i ?_;(focus(simp(disch:=first|omega|(simp;done)|(simp;omega)) [wrap_i64,wrap_u64,gx];first|done|rfl|exact⟨rfl,rfl⟩)))
    |(refine By.i ?_;simp(disch:=first|omega|(simp;done)|(simp;omega)) [wrap_i64,wrap_u64,gx];refine⟨ze,rfl⟩)
    |(refine Wt.i ?_;first|rfl|(focus(simp[gx];done)))
    |(refine Ns.i ?_;(try simp only[yAl,yAO,yAQ,yAi,yAa,yAS,yAT,yAp,Nat.reduceAdd]);rfl)|rfl
    |(apply SL.pass;(focus(refine Wt.i ?_;rfl)))|(apply tv;(focus rfl))|apply SL.move|apply SL.assign|apply SL.load|apply SL.uW|apply tv|apply SL.make|apply SL.binOp|apply SL.append|apply tv
    |apply SL.builtin|apply SL.fieldAddr|apply SL.indexAddr|apply tv|apply SL.extract|apply SL.uX|apply SL.pick|apply SL.store|apply SL.unOp|apply SL.convert|apply SL.index|apply SL.slice|apply SL.build
    |apply tv|apply SL.buildSlice|apply SL.box|apply SL.alloc|apply SL.makeFunc))
   exact hh.out)):G:=h gx ⟨r⟩
theorem EF{X R G:Prop}(gx:X)(r:R)(h:X->Hd R->G:=by
  (intro gx hh
   (repeat(first
    |(refine Fr.i ?_;simp only[aW,yAY,yAZ];try rfl)
    |(refine By.i ?_;(focus(simp(disch:=first|omega|(simp;done)|(simp;omega)) [wrap_i64,wrap_u64,gx];first|done|rfl|exact⟨rfl,rfl⟩)))
    |(refine By.i ?_;simp(disch:=first|omega|(simp;done)|(simp;omega)) [wrap_i64,wrap_u64,gx];refine⟨ze,rfl⟩)
    |(refine Wt.i ?_;first|rfl|(focus(simp;done)))
    |(refine Ns.i ?_;(try simp only[yAl,yAO,yAQ,yAi,yAa,yAS,yAT,yAp,Nat.reduceAdd]);rfl)|rfl
    |(apply SL.pass;(focus(refine Wt.i ?_;rfl)))|(apply tv;(focus rfl))|apply SL.move|apply SL.assign|apply SL.load|apply SL.uW|apply tv|apply SL.make|apply SL.binOp|apply SL.append
    |apply tv|apply SL.builtin|apply SL.fieldAddr|apply SL.indexAddr|apply tv|apply SL.extract|apply SL.uX|apply SL.pick|apply SL.store|apply SL.unOp|apply SL.convert|apply SL.index|apply SL.slice
    |apply SL.build|apply tv|apply SL.buildSlice|apply SL.box|apply SL.alloc|apply SL.makeFunc))
   exact hh.out)):G:=h gx ⟨r⟩
theorem LC{X R G:Prop}(gx:X)(r:R)(h:X->Hd R->G:=by
  (intro gx hh
   (repeat(first
    |(refine Fr.i ?_;simp only[aW,yAY,yAZ];try rfl)
    |(refine By.i ?_;(focus(simp(disch:=first|omega|(simp;done)|(simp;omega)) [wrap_i64,wrap_u64,gx];first|done|rfl|exact⟨rfl,rfl⟩)))
    |(refine By.i ?_;simp(disch:=first|omega|(simp;done)|(simp;omega)) [wrap_i64,wrap_u64,gx];refine⟨ze,rfl⟩)
    |(refine Wt.i ?_;first|rfl|(focus(simp[gx];done)))
    |(refine Ns.i ?_;(try simp only[yAl,yAO,yAQ,yAi,yAa,yAS,yAT,yAp,Nat.reduceAdd]);rfl)|rfl
    |(apply SL.pass;(focus(refine Wt.i ?_;rfl)))|(apply tv;(focus rfl))|apply SL.move|apply SL.assign|apply SL.load|apply SL.uW|apply tv|apply SL.make|apply SL.binOp|apply SL.append
    |apply tv|apply SL.builtin|apply SL.fieldAddr|apply SL.indexAddr|apply tv|apply SL.extract|apply SL.uX|apply SL.pick|apply SL.store|apply SL.unOp|apply SL.convert|apply SL.index|apply SL.slice
    |apply SL.build|(apply SL.LA;rotate_left;(focus rfl);rotate_right)|apply tv|apply SL.buildSlice|apply SL.box|apply SL.alloc|apply SL.makeFunc|apply SQ.nil|(apply WL.CD;(focus decide +kernel))
    |(apply WL.AD yp;(focus decide +kernel);(focus decide +kernel))|(apply tv;(focus decide +kernel);(focus decide +kernel))|(apply WL.HB;(focus decide +kernel))
    |(apply WL.HC yp;(focus decide +kernel);(focus decide +kernel))|(apply WL.HD;(focus decide +kernel);(focus decide +kernel))
    |(apply tv yp;(focus decide +kernel);(focus decide +kernel))|(apply WL.HF yp;(focus decide +kernel);(focus decide +kernel))
    |(apply WL.HG yp;(focus decide +kernel);(focus decide +kernel))|(apply tv yp;(focus decide +kernel);(focus decide +kernel))|apply tv|(apply WL.ct;(focus rfl))
    |(apply WL.cf;(focus rfl))|refine gG.normal ?_|refine gG.ret ?_|refine gG.exit ?_|refine iP.normal ?_|refine iP.ret ?_|refine iP.here ?_|refine tv yj ?_|refine Wp.block ?_
    |refine Wp.skip ?_|refine Wp.ret ?_|refine Wp.exit ?_|refine bC.ret ?_|refine bC.exit ?_|refine mD.normal ?_|refine tv ?_|refine mD.exit ?_|refine Wp.seq (Wp.seq ?_)|refine Wp.seq (Wp.block ?_)
    |(refine Wp.seq ?_;apply WL.ct;(focus rfl))|(refine Wp.seq ?_;apply WL.cf;(focus rfl))))
   exact hh.out)):G:=h gx ⟨r⟩
theorem YW{X R G:Prop}(gx:X)(r:R)(h:X->Hd R->G:=by
  (intro gx hh
   (repeat(first
    |(refine Fr.i ?_;simp only[aW,yAY,yAZ];try rfl)
    |(refine By.i ?_;(focus(simp(disch:=first|omega|(simp;done)|(simp;omega)) [wrap_i64,wrap_u64,gx];first|done|rfl|exact⟨rfl,rfl⟩)))
    |(refine By.i ?_;simp(disch:=first|omega|(simp;done)|(simp;omega)) [wrap_i64,wrap_u64,gx];refine⟨ze,rfl⟩)
    |(refine Wt.i ?_;first|rfl|(focus(simp[gx];done)))
    |(refine Ns.i ?_;(try simp only[yAl,yAO,yAQ,yAi,yAa,yAS,yAT,yAp,Nat.reduceAdd]);rfl)|rfl
    |(apply SL.pass;(focus(refine Wt.i ?_;rfl)))|(apply tv;(focus rfl))|apply SL.move|apply SL.assign|apply SL.load|apply SL.uW|apply tv|apply SL.make|apply SL.binOp|apply SL.append
    |apply tv|apply SL.builtin|apply SL.fieldAddr|apply SL.indexAddr|apply tv|apply SL.extract|apply SL.uX|apply SL.pick|apply SL.store|apply SL.unOp|apply SL.convert|apply SL.index|apply SL.slice
    |apply SL.build|(apply SL.LA;rotate_left;(focus rfl);rotate_right)|apply tv|apply SL.buildSlice|apply SL.box|apply SL.alloc|apply SL.makeFunc|apply SQ.nil|(apply WL.CD;(focus decide +kernel))
    |(apply WL.AD yp;(focus decide +kernel);(focus decide +kernel))|(apply tv;(focus decide +kernel);(focus decide +kernel))|(apply WL.HB;(focus decide +kernel))
    |(apply WL.HC yp;(focus decide +kernel);(focus decide +kernel))|(apply WL.HD;(focus decide +kernel);(focus decide +kernel))|(apply tv yp;(focus decide +kernel);(focus decide +kernel))
    |(apply WL.HF yp;(focus decide +kernel);(focus decide +kernel))|(apply WL.HG yp;(focus decide +kernel);(focus decide +kernel))
    |(apply tv yp;(focus decide +kernel);(focus decide +kernel))|apply tv|(apply WL.ct;(focus rfl))|(apply WL.cf;(focus rfl))|refine gG.normal ?_|refine gG.ret ?_|refine gG.exit ?_
    |refine iP.normal ?_|refine iP.ret ?_|refine iP.here ?_|refine tv yj ?_|refine Wp.block ?_|refine Wp.skip ?_|refine Wp.ret ?_|refine Wp.exit ?_|refine bC.ret ?_|refine bC.exit ?_
    |refine mD.normal ?_|refine tv ?_|refine mD.exit ?_|refine Wp.seq (Wp.seq ?_)|refine Wp.seq (Wp.block ?_)|(refine Wp.seq ?_;apply WL.ct;(focus rfl))|(refine Wp.seq ?_;apply WL.cf;(focus rfl))))
   exact hh.out)):G:=h gx ⟨r⟩
theorem F9{c:Cx}{vs:Fa}{n:Nat}(h:aS c vs [.slice n [] .any]):aS c vs [.slice n [] .iK]\/aS c vs [.slice n [] .jF]:=by
 obtain⟨h1,h2⟩:=h
 match vs,h1 with
 | [v],_=>
   have hv:=h2 0 v _ rfl rfl;obtain⟨A,cap,fl,rfl,a1,a2,a3,a4,a5,a6,a7,a8⟩:=hv.nS;have one:∀d,VR c (.slice A ([]:List PD).length cap) d->aS c [.slice A ([]:List PD).length cap] [d]:=λd hd=>⟨rfl,λi v d' e1 e2=>by
    cases i with
    |zero=>simp at e1 e2;subst e1 e2;exact hd
    |succ i=>simp at e1⟩
   cases A with
   |none=>exact .inl (one _ (.slice none _ cap n [] .iK fl rfl a1 a2 a3 a4 a5 a6 a7 ⟨_,_,rfl⟩))
   |some a=>exact .inr (one _ (.slice (some a) _ cap n [] .jF fl rfl a1 a2 a3 a4 a5 a6 a7 ⟨_,_,_,rfl⟩))
section
open Go
section
variable{P:Program}{call:bY}{fl:Nat}{ops:Fc}
theorem OS:∀(l:List Oper) (i k:Nat) (fr:List PD) (σ:List aB) (tr:List TE) (fr':List PD) (σ':List aB) (ρ:dQ),
  oH P call fl ops i k l fr σ=some (tr,fr',σ')->ρ.ok fr->∀j a b,(tr[j]?).bind TE.iJ=some a->(yW ρ l).getD j none=some b->a=b
 | [],_,_,_,_,_,_,_,_,_,_,_,_,_,_,h2=>by simp[yW]at h2
 |o::l,i,k,fr,σ,tr,fr',σ',ρ,h,hρ,j,a,b,h1,h2=>by
  simp only[oH]at h;split at h
  .split at h
   .rename_i p σ1 hop;split at h
    .rename_i oV aQ σ2 hrec;simp only[yAb,yAc]at h;obtain⟨rfl,rfl,rfl⟩:=h;cases j with
     |zero=>
      simp only[yBC,yCU]at h1;simp only[yW,List.getD_cons_zero]at h2;exact dQ.aH0 hρ h1 h2
     |succ j=>
      simp only[yBT]at h1;simp only[yW,yEl]at h2;refine OS l _ _ _ _ _ _ _ _ hrec (dQ.aAL hρ ?_) j a b h1 h2;intro u ho id hp;unfold R0 at ho;split at ho
      .rename_i s u' f KG;simp only[yAb]at ho;subst ho;rw[KG]at hop;simp only[fL,dW,yAK,dL,aX]at hop;split at hop
       .rename_i p' hp';simp only[yAb,yAc]at hop;obtain⟨rfl,rfl⟩:=hop;exact aH1 hp' hp
       .cases hop
      .rename_i u' KG;simp only[yAb]at ho;subst ho;rw[KG]at hop;simp only[fL,dW,yAK,dL,aX]at hop;split at hop
       .rename_i p' hp';simp only[yAb,yAc]at hop;obtain⟨rfl,rfl⟩:=hop;split at hp'
        .rename_i id' off' e;exact ja
        .rename_i cs off e;exact ja
        .rename_i id' eX off' e;exact ja
        .cases hp'
       .cases hop
      .rename_i u' KG;simp only[yAb]at ho;subst ho;rw[KG]at hop;simp only[fL,dW,yAK,dL,aX,yAb,yAc]at hop;rw[hop.1];exact hp
      .cases ho
    .cases h
   .cases h
  .split at h
   .rename_i oV aQ σ2 hrec;simp only[yAb,yAc]at h;obtain⟨rfl,rfl,rfl⟩:=h;cases j with
    |zero=>simp at h1
    |succ j=>
     simp only[yBT]at h1;simp only[yW,yEl]at h2;exact OS l _ _ _ _ _ _ _ _ hrec (dQ.aAL hρ λ_ _ _ hp=>by cases hp) j a b h1 h2
   .cases h
end
open Classical in
def xN(E:aE)(B:List Nat):bY:=λfl tg args σ=>match eK E fl tg args σ with
 |some (p,σ')=>if σ.length<=σ'.length/\(∀id∈B,id<σ.length->σ'[id]?=σ[id]?)then some (p,σ')else none
 |none=>none
theorem U3{E:aE}{B:List Nat}{fl f:Nat}{g:Er}{args:Ey}{σ σ':Ex}{p:PD}(hE:E f=some g)(h:g fl args σ=some (p,σ'))(hl:σ.length<=σ'.length)(hk:∀id∈B,id<σ.length->σ'[id]?=σ[id]?) :
  xN E B fl (.inl f) args σ=some (p,σ'):=by
 have e:eK E fl (.inl f) args σ=some (p,σ'):=by simp only[eK,hE,h]
 unfold xN;rw[e];simp only;rw[yAJ ⟨hl,hk⟩]
theorem aDO{E:aE}{B:List Nat}{fl:Nat}{tg:FuncId ⊕ Nat}{args:Ey}{σ σ':Ex}{p:PD}(h:xN E B fl tg args σ=some (p,σ')):eK E fl tg args σ=some (p,σ')/\σ.length<=σ'.length/\∀id∈B,id<σ.length->σ'[id]?=σ[id]?:=by
 unfold xN at h;split at h
 .rename_i p1 σ1 e;split at h
  .rename_i hc;simp only[yAb,yAc]at h;obtain⟨rfl,rfl⟩:=h;exact⟨e,hc⟩
  .cases h
 .cases h
def GJ(ops:List Oper):Bool:=ops.all λo=>!cE o.op&&(!cU o.op||(match o.op with
 |.call { callee:=.value _,.. }=>true
 |_=>false))
section
variable{P:Program}{E:aE}{fl:Nat}{ops:Fc}
theorem TE.OT{t:TE}{tr:List TE}{uC:Ex}:TE.at (t::tr) uC 0=t.σ:=rfl
theorem TE.uR{t:TE}{tr:List TE}{uC:Ex}{j:Nat}:TE.at (t::tr) uC (j+1)=TE.at tr uC j:=by simp[TE.at]
theorem TE.OU{tr:List TE}{σ:Ex}{fr fr':Ey}{σ':Ex}{call:bY}{i k:Nat}{l:List Oper}(h:oH P call fl ops i k l fr σ=some (tr,fr',σ')):TE.at tr σ' 0=σ:=by
 cases l with
 |nil=>
  simp only[oH,yAb,yAc]at h;obtain⟨rfl,_,rfl⟩:=h;rfl
 |cons o l=>
  simp only[oH]at h;split at h
  .split at h
   .exact ot
   .cases h
  .exact ot
theorem WH{B:List Nat}{n:Nat}:∀(l:List Oper) (i k:Nat) (fr:List PD) (σ:List aB) (x:Ey×List aB),(∀o∈l,(dW o.op||dM o.op||cE o.op||kY o.op||dN o.op)=true)->GJ l=true ->
  dE P (xN E B) fl ops l fr σ=some x->∃tr,oH P (dG P E n) fl ops i k l fr σ=some (tr,x.1,x.2) /\
   ∀(j:Nat) (o:Oper),l[j]?=some o->cU o.op=true->(TE.at tr x.2 j).length<=(TE.at tr x.2 (j+1)).length/\∀id∈B,id<(TE.at tr x.2 j).length->(TE.at tr x.2 (j+1))[id]?=(TE.at tr x.2 j)[id]?
 | [],_,_,_,_,x,_,_,h=>by
   exact si
 |o::l,i,k,fr,σ,x,hsh,hk,h=>by
  simp only[GJ,yCl,yAr,yBq]at hk;obtain⟨⟨hka,hkm⟩,hkl⟩:=hk;simp only[dE]at h;split at h
  .rename_i hw;split at h
   .rename_i p σ1 hp;obtain⟨tr,h1,h2⟩:=WH (n:=n) l (i+1) k _ _ x (λo ho=>hsh o (by simp[ho])) hkl h;have hst:bX P (dG P E n) fl fr σ o.op=some (p,σ1)/\(cU o.op=true->σ.length<=σ1.length/\∀id∈B,id<σ.length->σ1[id]?=σ[id]?):=by
     unfold bX at hp ⊢;split at hp
     .rename_i tg args hc;obtain⟨q1,q2,q3⟩:=aDO hp;exact⟨QQ q1,λ_=>⟨q2,q3⟩⟩
     .rename_i hc;refine⟨hp,λhm=>?_⟩;rw[hm]at hkm;simp only[yBR,yCf]at hkm
      exfalso
      split at hkm
      .rename_i g args ts hop;unfold pop at hp;rw[hop]at hp;simp[dL,cJ]at hp
      .cases hkm
    refine⟨⟨fr,σ,p,j6 fr o.op⟩::tr,?_,?_⟩
    .exact nj
    .intro j o' ho' hm;cases j with
     |zero=>
      simp only[yBC,yAb]at ho';subst ho';rw[TE.uR,TE.OT,TE.OU h1];exact hst.2 hm
     |succ j=>
      exact gi
   .cases h
  .rename_i hw;obtain⟨tr,h1,h2⟩:=WH (n:=n) l (i+1) k _ _ x (λo ho=>hsh o (by simp[ho])) hkl h;exact dx
theorem WI:∀ {l:List Oper},GJ l=true->lA P l=some []
 | [],_=>rfl
 |o::l,h=>by
  simp only[GJ,yCl,yAr,yBq]at h;obtain⟨⟨ha,_⟩,hl⟩:=h;unfold lA;split
  .rename_i t ho;rw[ho]at ha;cases ha
  .exact WI hl
def GK(ops:List Oper)(ρ:dQ):List (Option Nat):=r9 ops [] λms=>
 (List.range ops.length).flatMap λk=>if dZ cU ops k then(List.range ops.length).filterMap λi=>if dZ dM ops i&&loose ms i k then some ((yW ρ ops).getD i none)else none else []
def zK(B:List Nat):List (Option Nat)->Prop
 | []=>True
 |some a::l=>a∈B/\zK B l
 |none::_=>False
theorem WJ{B:List Nat}:∀ {l:List (Option Nat)},zK B l->∀x,x∈l->∃a,x=some a/\a∈B
 | [],_,_,h=>yw
 |some a::l,h,x,hm=>by
  rcases yBD.1 hm with rfl|hm
  .exact⟨a,rfl,h.1⟩
  .exact WJ h.2 x hm
 |none::_,h,_,_=>h.elim
def WD(f:Oper->Bool)(ops:List Oper)(i:Nat):Bool:=((ops[i]?).map f).getD false
def WE(f:Nat)(o:Oper):Bool:=o.guard.isNone&&(match o.op with
 |.call { callee:=.value (.func g),.. }=>decide (g=f)
 |_=>false)
end
end
theorem aDJ{F:Fence}{P:Program}(hF:Open F P)(m:Machine):m.fenced P F:=by
 intro g _;refine⟨λh=>?_,Or.inl (hF.fn _),λ_ _=>hF.fn _,λ_ h=>?_⟩
 .rw[hF.alive]at h;cases h
 .rw[hF.depth]at h;cases h
theorem aNE{F:Fence}{P:Program}(hF:Open F P){m m':Machine}{e:Ending}(h:Comes P m m' e):ComesIn (Machine.fenced P F) P m m' e:=by
 cases e with
 |returned v=>exact(StepsIn.of_steps h).mono λm _=>aDJ hF m
 |panicked chain=>exact(StepsIn.of_steps h).mono λm _=>aDJ hF m
 |outgrown=>exact h
theorem aNF{F:Fence}{P:Program}(hF:Open F P){n:Nat}{f:FuncId}{args:Fb}{w:World}{R:Ending->World->Prop}(h:Calls P f args w R):CallsIn F n P f args w R:=
 ⟨hF.fn f,λcs _=>let ⟨e,w',fr,r,s,x⟩:=h cs;⟨e,w',fr,r,aNE hF s,x⟩⟩
theorem aF.KD{P:Program}{E:aE}(hE:aF P E){f:FuncId}{g:Er}(hf:∃fn,P.funcs[f]?=some fn/\fn.body.isSome=true)
  (h:∀(fl:Nat) (args:List PD) (c:Cx) (vs:List Value) (p:PD) (σ':List aB),g fl args c.σ=some (p,σ')->Sr c->Xw fl c->aS c vs args->Calls P f vs.toArray c.w (CU fl c p σ')):aF P (E.add f g):=by
 intro F fl f' g' args c vs p σ' hF hg hgo hs hX hv;unfold aE.add at hg;split at hg
 .rename_i e;subst e;simp only[yAb]at hg;subst hg;exact⟨hf,λm=>aNF hF (h fl args c vs p σ' hgo hs hX hv)⟩
 .exact ew
theorem aF.GG{P:Program}{E:aE}(hE:aF P E){f:FuncId}{g:List PD->Option PD}(hf:∃fn,P.funcs[f]?=some fn/\fn.body.isSome=true)
  (h:∀(args:List PD) (c:Cx) (vs:List Value) (p:PD),g args=some p->Sr c->aS c vs args->Calls P f vs.toArray c.w λe w'=>∃v,e=.returned v/\c.w.grownBy w' none/\(Sr (c.at w')->VR (c.at w') v p)):aF P (E.add f (entry g)):=by
 refine hE.KD hf λfl args c vs p σ' hg hs _ hv=>?_
 unfold entry at hg;cases hga:g args with
 |none=>rw[hga]at hg;cases hg
 |some q=>
  rw[hga]at hg;simp only[yAb,yAc]at hg;obtain⟨rfl,rfl⟩:=hg;refine yBB (h args c vs q hga hs hv) λe w' he=>?_
  obtain⟨v,rfl,hgr,hvv⟩:=he;have hs':=hs.grow hgr;exact⟨c.at w',rfl,rfl,hs',Nx.grow hs hgr,hvv hs',λ_ h=>.inl h⟩
theorem grownBy_refl(w:World):w.grownBy w none:=⟨rfl,rfl,rfl,yAk _,λ_ _ _=>rfl⟩
theorem OO{c:Cx}{vs:Fa}{p:PD}(h:aS c vs [p]):∃v,vs=[v]/\VR c v p:=by
 match vs,h.1 with
 | [v],_=>exact⟨v,rfl,h.2 0 _ _ rfl rfl⟩
theorem J9{c:Cx}{vs:Fa}{p q:PD}(h:aS c vs [p,q]):∃v u,vs=[v,u]/\VR c v p/\VR c u q:=by
 match vs,h.1 with
 | [v,u],_=>exact⟨v,u,rfl,h.2 0 _ _ rfl rfl,h.2 1 _ _ rfl rfl⟩
theorem VR.int_eq{c:Cx}{v:Value}{k:IntKind}{n:Int}(h:VR c v (.int k n)):v=.int k n:=Az
theorem VR.KA{c:Cx}{v:Value}{s:Ez}(h:VR c v (.str s)):v=.string ⟨s.toArray⟩:=Az
theorem aNG{α β:Type}{a:Em α}{r:Em β}{F:α->Option β}{args:Ey}{p:PD}(h:bZ a r F args=some p):∃x z,args.map PD.strip=[a.aA x]/\F x=some z/\p=r.aA z:=by
 match args,h with
 | [q],h=>
   simp only[bZ]at h;split at h
   .rename_i x hx;split at h
    .rename_i z hz;simp only[yAb]at h;exact⟨x,z,by simp[Em.mC hx],hz,h.symm⟩
    .cases h
   .cases h
theorem aNH{α β γ:Type}{a:Em α}{b:Em β}{r:Em γ}{F:α->β->Option γ}{args:Ey}{p:PD}(h:eD a b r F args=some p):∃x y z,args.map PD.strip=[a.aA x,b.aA y]/\F x y=some z/\p=r.aA z:=by
 match args,h with
 | [q1,q2],h=>
   simp only[eD]at h;split at h
   .rename_i x y hx hy;split at h
    .rename_i z hz;simp only[yAb]at h;exact⟨x,y,z,by simp[Em.mC hx,Em.mC hy],hz,h.symm⟩
    .cases h
   .cases h
section
section
variable{c:Cx}{w':World}{id n cap g size:Nat}{e:TypeId}{cur:Fb}{fz KE:Nat×Nat}
theorem aNI(hg:c.w.heap[g]?=some (.cells cur e fz))(h1:∀k,k≠g->w'.heap[k]?=c.w.heap[k]?)(h2:w'.heap[g]?=some (.cells cur e KE))(a:Addr):w'.cell? a=c.w.cell? a:=by
 unfold World.cell?
 by_cases h:a.block=g
 .rw[h,hg,h2]
 .rw[h1 _ h]
theorem Nx.OP{fl:Nat}(hd:c.D id)(hρ:c.ρ id=.slice (some ⟨g,0,none⟩) n cap)(hfl:fl<=id)(hg:c.w.heap[g]?=some (.cells cur e fz))
  (h0:w'.os=c.w.os/\w'.tape=c.w.tape/\w'.output=c.w.output/\w'.heap.size=c.w.heap.size) (h1:∀k,k≠g->w'.heap[k]?=c.w.heap[k]?) (h2:w'.heap[g]?=some (.cells cur e KE)):Nx fl c (c.at w') where
 X:=rfl
 os:=h0.1
 tape:=h0.2.1
 output:=h0.2.2.1
 size:=Nat.le_of_eq h0.2.2.2.symm
 len:=yAk _
 cell:=λa v ha hv=>⟨ha,by show w'.cell? a=_;rw[aNI hg h1 h2];exact hv⟩
 bA:=λ_ h=>h
 new:=λ_ h=>.inl h
 rK:=λ_ p _ h=>⟨rfl,p,h⟩
 mG:=λ_ _ h=>⟨rfl,h⟩
 sJ:=λ_ _ _ n _ h=>⟨n,h,yAk _,λ_=>rfl⟩
 sK:=λ_ _ _ v cs _ h=>⟨v,cs,h,yAk _,λ_=>rfl⟩
 back:=λ_ _ h h' _=>⟨h,h'⟩
 frame:=λk _ hx=>h1 k λe=>hx id hd hfl (by rw[hρ,e];rfl)
 ro:=λ_ _ _=>rfl
 hole:=λ_ _ _=>rfl
theorem Sr.OP(hs:Sr c)(hd:c.D id)(hq:c.σ[id]?=some (.own e size n))(hρ:c.ρ id=.slice (some ⟨g,0,none⟩) n cap)(hg:c.w.heap[g]?=some (.cells cur e fz))
  (h0:w'.os=c.w.os/\w'.tape=c.w.tape/\w'.output=c.w.output/\w'.heap.size=c.w.heap.size) (h1:∀k,k≠g->w'.heap[k]?=c.w.heap[k]?) (h2:w'.heap[g]?=some (.cells cur e KE)) (h3:KE.2<=n*size):Sr (c.at w'):=by
 have hb:aY (c.ρ id)=some g:=by rw[hρ];rfl
 have nx:Nx 0 c (c.at w'):=Nx.OP hd hρ (yAF _) hg h0 h1 h2;have far:∀i b,c.D i->i≠id->aY (c.ρ i)=some b->w'.heap[b]?=c.w.heap[b]?:=λi b hi hne hbi=>h1 b λe'=>hs.inj i id b hi hd hne hbi (by rw[e'];exact hb)
 have hne:∀i (o:aB),c.σ[i]?=some o->(∀e s m,o≠.own e s m)->i≠id:=λi o ho hno e'=>by
  subst e';rw[hq]at ho;simp only[yAb]at ho;exact hno _ _ _ ho.symm
 refine⟨?_,?_,?_,?_,?_,?_,hs.inj,?_,hs.bA,?_,hs.jA.mono nx⟩
 .intro i p hi hp;obtain⟨b',cs',T',e1,e2,e3,e4⟩:=hs.box i p hi hp;exact⟨b',cs',T',e1,by show w'.heap[b']?=_;rw[far i b' hi (hne i _ hp (λ_ _ _ e=>zu)) Cl];exact e2,e3.mono nx,e4⟩
 .intro i e0 s m hi ho
  by_cases hii:i=id
  .subst hii;have ho':c.σ[i]?=some (.own e0 s m):=ho;rw[hq]at ho';simp only[yAb,aB.own.injEq]at ho';obtain⟨rfl,rfl,rfl⟩:=ho';obtain⟨xs,hx⟩:=hs.own i _ _ _ hi hq;refine⟨xs,hx.1,?_⟩;rcases hx.2 with hv | ⟨g1,aDK,aHr,fz1,hv,hb1,fN,_,r⟩
   .rw[hρ]at hv;simp at hv
   .rw[hρ]at hv;simp only[yBM,yAb,yBJ,yBn]at hv;obtain⟨rfl,_,rfl⟩:=hv;rw[hg]at fN;simp only[yAb,Obj.cells.injEq]at fN;obtain⟨rfl,_,rfl⟩:=fN;exact .inr ⟨g,cap,cur,KE,hρ,hb1,h2,h3,r⟩
  .obtain⟨xs,hx⟩:=hs.own i e0 s m hi ho;exact⟨xs,AT hx (λg' hg'=>far i g' hi hii hg')⟩
 .intro i e0 sz ver ds hi ho;obtain⟨b',C,cur,e1,e2,e3,e4,e5,e6,e7,e8⟩:=hs.row i e0 sz ver ds hi ho;exact⟨b',C,cur,e1,by show w'.heap[b']?=_;rw[far i b' hi (hne i _ ho (λ_ _ _ e=>zu)) Cl];exact e2,e3,e4,e5,e6,e7.mono nx,e8⟩
 .intro i es hi ho;obtain⟨b',ents,clock,e1,e2,e3,e4⟩:=hs.map i es hi ho;exact⟨b',ents,clock,e1,by show w'.heap[b']?=_;rw[far i b' hi (hne i _ ho (λ_ _ _ e=>zu)) Cl];exact e2,e3.mono nx,e4.mono nx⟩
 .intro i hi hm;obtain⟨b',e1,e2⟩:=hs.mark i hi hm;exact⟨b',e1,by show w'.heap[b']?=_;rw[far i b' hi (hne i _ hm (λ_ _ _ e=>zu)) Cl];exact e2⟩
 .intro i st fr ps asg bd hi hm;obtain⟨b',r,e1,e2,e3,e4,e5,e6,e7⟩:=hs.loop i st fr ps asg bd hi hm;exact⟨b',r,e1,by show w'.heap[b']?=_;rw[far i b' hi (hne i _ hm (λ_ _ _ e=>zu)) Cl];exact e2,e3,e4,e5,e6.mono nx,e7⟩
 .intro i b hi hbi;show b<w'.heap.size
  rw[h0.2.2.2];exact hs.lt i b hi hbi
 .intro a ha;have:w'.heap.size<=a.block:=ha;rw[h0.2.2.2]at this;exact hs.fresh a this
end
def KC:List PD->Option (List UInt8)
 | []=>some []
 |.int .u8 n::r=>if 0<=n/\n<256 then(match KC r with|some l=>some (UInt8.ofNat n.toNat::l)|none=>none)else none
 |_=>none
theorem aDF:∀ {xs:Ey} {l:Ez},KC xs=some l->xs=l.map λb=>PD.int .u8 b.toNat
 | [],l,h=>by simp only[KC,yAb]at h;subst h;rfl
 |x::r,l,h=>by
  unfold KC at h;split at h
  .cases ‹_::_=[]›
  .rename_i n r' heq;simp only[yC]at heq;obtain⟨rfl,rfl⟩:=heq;split at h
   .rename_i hn;split at h
    .rename_i l' hl;simp only[yAb]at h;subst h;rw[yAR,<-aDF hl]
     congr 2
     have:(UInt8.ofNat n.toNat).toNat=n.toNat:=by
      simp only[UInt8.toNat_ofNat'];omega
     omega
    .cases h
   .cases h
  .cases h
end
def sQ(n:Nat)(k:Nat)(cs:List PD):List PD:=if n=1 then cs.take k else qO n k cs
def aZ(σ:List aB):Nat->PD->PD
 |0,p=>p
 |k+1,.agg cs=>.agg (cs.map (aZ σ k))
 |k+1,.aP cs=>.aP (cs.map (aZ σ k))
 |k+1,.slice n xs _=>.slice n (xs.map (aZ σ k)) .any
 |k+1,.cV id off n sz=>match σ[id]? with
  |some (.box q)=>if off+n*sz<=q.cells.length then .slice sz (sQ sz n ((q.cells.drop off).map (aZ σ k))) .any else .cV id off n sz
  |_=>.cV id off n sz
 |k+1,.aU id ver off n sz=>match σ[id]? with
  |some (.row _ sz' eX cs)=>if eX=ver/\sz'=sz/\off+n*sz<=cs.length then .slice sz (sQ sz n ((cs.drop off).map (aZ σ k))) .any else .aU id ver off n sz
  |_=>.aU id ver off n sz
 |k+1,.iface t p=>.iface t (aZ σ k p)
 |_+1,p=>p
theorem aA1(σ:List aB):∀(k:Nat) (p:PD),p.plain=true->(aZ σ k p).plain=true
 |0,p,h=>h
 |k+1,p,h=>by
  cases p<;>simp only[aZ]<;>first
   |rfl
   |exact h
   |(simp[PD.plain]at h;done)
   |(split
     .split<;>rfl
     .rfl)
theorem aIh(σ:List aB):∀(k:Nat) (p:PD) (j:Nat) (d:PD),(aZ σ k p).cells[j]?=some d->∃k' d0,k'<=k/\p.cells[j]?=some d0/\d=aZ σ k' d0
 |0,p,j,d,h=>⟨0,d,yAk _,h,rfl⟩
 |k+1,p,j,d,h=>by
  by_cases hty:∃t cs,p=.typed t cs
  .obtain⟨t,cs,rfl⟩:=hty;exact⟨0,d,yAF _,h,rfl⟩
  have hp:∀t cs,p≠.typed t cs:=λt cs e=>hty ⟨t,cs,e⟩
  by_cases ha:∃cs,p=.agg cs
  .obtain⟨cs,rfl⟩:=ha;simp only[aZ,PD.cells,yAo]at h;cases hj:cs[j]? with
   |none=>rw[hj]at h;cases h
   |some d0=>
    rw[hj]at h;simp only[yAC,yAb]at h;exact⟨k,d0,ye,by simpa [PD.cells]using hj,h.symm⟩
  .have hpl:p.plain=true\/∃vs,p=.aP vs:=by
    cases p<;>first|exact .inl rfl|exact .inr ⟨_,rfl⟩ | exact absurd ⟨_,rfl⟩ ha|exact absurd rfl (hp _ _)
   have h1:p.cells=[p]:=by
    rcases hpl with h | ⟨vs,rfl⟩
    .cases p<;>first|rfl|(simp[PD.plain]at h;done)
    .rfl
   have h2:(aZ σ (k+1) p).cells=[aZ σ (k+1) p]:=by
    rcases hpl with h | ⟨vs,rfl⟩
    .have:=aA1 σ (k+1) p h
     generalize aZ σ (k+1) p=q at *
     cases q<;>first|rfl|(simp[PD.plain]at this;done)
    .rfl
   rw[h2]at h;cases j with
   |zero=>
    simp only[yBC,yAb]at h;exact⟨k+1,p,yAk _,by rw[h1];rfl,h.symm⟩
   |succ j=>simp at h
theorem aA2(σ:List aB)(k:Nat)(p:PD):(aZ σ k p).cells.length=p.cells.length:=by
 cases k with
 |zero=>rfl
 |succ k=>
  cases p<;>simp only[aZ]<;>first
   |rfl
   |(simp[PD.cells];done)
   |(split
     .split<;>rfl
     .rfl)
theorem aA3(σ:List aB)(k:Nat):∀(xs:List PD) (j:Nat) (d:PD),((xs.map (aZ σ k)).flatMap PD.cells)[j]?=some d->∃k' d0,k'<=k/\(xs.flatMap PD.cells)[j]?=some d0/\d=aZ σ k' d0
 | [],j,d,h=>Am
 |x::xs,j,d,h=>by
  simp only[yAR,yBs]at h ⊢;have hl:=aA2 σ k x;rw[yDb]at h ⊢;rw[hl]at h;split at h
  .rename_i hj;rw[yAJ hj];exact aIh σ k x j d h
  .rename_i hj;rw[yAI hj];exact aA3 σ k xs _ d h
theorem aIi{n k:Nat}{cs:Ey}(h:k*n<=cs.length):(sQ n k cs).length=k:=by
 unfold sQ;split
 .rename_i h1;subst h1;simp;omega
 .exact yR n k cs
theorem aA4:∀ {cs:Ey},(∀d∈cs,d.plain=true)->cs.flatMap PD.cells=cs
 | [],_=>rfl
 |x::xs,h=>by
  have hx:x.cells=[x]:=by
   have:=h x yg;cases x<;>first|rfl|(simp[PD.plain]at this;done)
  rw[yBs,hx,aA4 (λd hd=>h d (by simp[hd]))];rfl
theorem aIj{n k:Nat}{cs:Ey}(h:k*n<=cs.length)(hp:∀d∈cs,d.plain=true):(sQ n k cs).flatMap PD.cells=cs.take (k*n):=by
 unfold sQ;split
 .rename_i h1;subst h1;rw[aA4 (λd hd=>hp d (yAy hd)),yDc]
 .exact H4 n k cs h
theorem aIk{n k:Nat}{cs:Ey}(h:k*n<=cs.length)(hp:∀d∈cs,d.plain=true):∀x∈sQ n k cs,x.cells.length=n:=by
 unfold sQ;split
 .rename_i h1;subst h1;intro x hx;have:=hp x (yAy hx);cases x<;>first|rfl|(simp[PD.plain]at this;done)
 .exact MG n k cs h
theorem aIl{c:Cx}{cs:Fa}{ds:Ey}(h:aS c cs ds)(h1:∀v∈cs,v.oneCell'=true):∀d∈ds,d.plain=true:=by
 intro d hd;obtain⟨i,hi⟩:=yDd hd;have hlt:i<cs.length:=by rw[h.1];exact(yA.1 hi).1
 have:=(h.2 i cs[i] d Dw hi).plain;rw[this];exact h1 _ (yAm hlt)
theorem C9{xs:Ey}(h:PD.eJ xs=true){d:PD}(hd:d∈xs):d.bI=true:=by
 rw[PD.rI]at h;exact yAn.1 h d hd
theorem aA5{x:PD}(h:x.bI=true){d:PD}(hd:d∈x.cells):d.bI=true:=by
 cases x with
 |agg cs=>simp only[PD.bI]at h;exact C9 h hd
 |typed t cs=>simp only[PD.bI]at h;exact C9 h hd
 |_=>simp only[PD.cells,yCy]at hd;rw[hd];exact h
theorem aA6{c1 c2:Cx}(hs:Sr c1)(hw:c2.w=c1.w)(hav:∀a,c1.av a->c2.av a)(hnew:∀id b,c1.D id->aY (c1.ρ id)=some b->∀j,c2.av ⟨b,j,none⟩) :
  ∀(k:Nat) (v:Value) (p:PD),VR c1 v p->(aZ c1.σ k p).bI=true->VR c2 v (aZ c1.σ k p):=by
 have up:∀a v,c1.av a->c1.w.cell? a=some v->c2.av a/\c2.w.cell? a=some v:=λa v h1 h2=>⟨hav a h1,by rw[hw];exact h2⟩
 have row:∀(b off n cap sz C:Nat) (cells:List Value) (ds:List PD) (T:TypeId) (cur:Array Value) (k:Nat),(∀k'≤k,∀v p,VR c1 v p->(aZ c1.σ k' p).bI=true->VR c2 v (aZ c1.σ k' p))->c1.w.heap[b]?=some (.cells cur T (0,0))->(∀j,c2.av ⟨b,j,none⟩) ->
   (∀(j:Nat) (v:Value),cells[j]?=some v->cur.toList[j]?=some v)->aS c1 cells ds->(∀v∈cells,v.oneCell'=true)->off+n*sz<=ds.length->n<=cap->cap<=maxLen ->
   (PD.slice sz (sQ sz n ((ds.drop off).map (aZ c1.σ k))) .any).bI=true->VR c2 (.slice (some ⟨b,off,none⟩) n cap) (.slice sz (sQ sz n ((ds.drop off).map (aZ c1.σ k))) .any):=by
  intro b off n cap sz C cells ds T cur k ih hb hbv hc hv h1 hle hn hm hf;have hpd:=aIl hv h1;have hpl:∀d∈(ds.drop off).map (aZ c1.σ k),d.plain=true:=λd hd=>by
   obtain⟨d0,HW,rfl⟩:=yAw.1 hd;exact aA1 _ _ _ (hpd d0 (yBg HW))
  have hlen:n*sz<=((ds.drop off).map (aZ c1.σ k)).length:=zf;have hcl:cells.length=ds.length:=hv.1;have hfl:=aIj hlen hpl;refine .slice (some ⟨b,off,none⟩) n cap sz _ .any ((cells.drop off).take (n*sz)) (aIi hlen).symm hn hm (aIk hlen hpl) (by rw[yAt,yBd];omega) (λv qN=>h1 v (yBg (yAy qN))) ?_ ?_ trivial
  .intro j v hj;refine⟨_,rfl,?_,?_⟩
   .rw[sM,hw];simp only[World.cell?,hb];rw[yAv]at hj;split at hj
    .rw[yBl]at hj;simpa using hc _ v hj
    .cases hj
   .rw[sM];exact hbv _
  .intro j v d hj hd;rw[hfl,yAv]at hd;rw[yAv]at hj;split at hj
   .rename_i hjn;rw[yAJ hjn,yAo]at hd;rw[yBl]at hj;cases h0:(ds.drop off)[j]? with
    |none=>rw[h0]at hd;cases hd
    |some d0=>
     rw[h0]at hd;simp only[yAC,yAb]at hd;subst hd;rw[yBl]at h0;refine ih k (yAk _) v d0 (hv.2 _ v d0 hj h0) ?_;have hmem:aZ c1.σ k d0∈(sQ sz n ((ds.drop off).map (aZ c1.σ k))).flatMap PD.cells:=by
      rw[hfl];refine yAE (i:=j) ?_;rw[yAv,yAJ hjn,yAo,yBl,h0];rfl
     obtain⟨x,hx,hxd⟩:=yDe.1 hmem;simp only[PD.bI,yAr]at hf;exact aA5 (C9 hf.1 hx) hxd
   .cases hj
 intro k
 induction k using Nat.strongRecOn with
 |_ k ih=>
  intro v p hv hf;cases k with
  |zero=>exact hv.free up hf
  |succ k=>
   cases hv with
   |bool b=>exact .bool b
   |int kk n=>exact .int kk n
   |str s=>exact .str s
   |fV=>exact .fV
   |iB=>exact .iB
   |fF v h=>exact .fF v h
   |agg cs ds hl h1 h2=>
    simp only[aZ]at hf ⊢;simp only[PD.bI]at hf;refine .agg cs _ Bb h1 (λi u d hu hd=>?_);exact ep
   |aP cs ds hl h2=>
    simp only[aZ]at hf ⊢;simp only[PD.bI]at hf;refine .aP cs _ Bb (λi u d hu hd=>?_);exact ep
   |iface t u q hq=>
    simp only[aZ]at hf ⊢;simp only[PD.bI]at hf;exact .iface t u _ (ih k ye u q hq hf)
   |slice A n cap size xs tok fl hn hc hm hx hfl h1 hcell h2 ht=>
    simp only[aZ]at hf ⊢;simp only[PD.bI,yAr]at hf;refine .slice A n cap size _ .any fl Cj hc hm ?_ hfl h1 (λj u hj=>?_) (λj u d hj hd=>?_) trivial
    .intro y hy;obtain⟨x,hxm,rfl⟩:=yAw.1 hy;rw[aA2];exact hx x hxm
    .obtain⟨ad,e,g1,g2⟩:=hcell j u hj;obtain⟨q1,q2⟩:=up _ _ g2 g1;exact⟨ad,e,q2,q1⟩
    .obtain⟨k',d0,hk,h0,rfl⟩:=aA3 c1.σ k xs j d hd;refine ih k' ye u _ (h2 j u d0 hj h0) ?_;obtain⟨y,hy,hyd⟩:=yDe.1 (yAE hd);exact aA5 (C9 hf.1 hy) hyd
   |ptr id off b hd hq hr=>simp[aZ,PD.bI]at hf
   |dH id ver off b hp=>simp[aZ,PD.bI]at hf
   |eO id b hd hn hr=>simp[aZ,PD.bI]at hf
   |yield id l hd hn hr=>simp[aZ,PD.bI]at hf
   |eB ad fl ds off hl h1 hcl h2=>
    simp only[aZ]at hf ⊢;exact(VR.eB ad fl ds off hl h1 hcl h2).free up hf
   |func f cs ds hl h2=>
    simp only[aZ]at hf ⊢;exact(VR.func f cs ds hl h2).free up hf
   |jH f cs ds hl h2=>
    simp only[aZ]at hf ⊢;exact(VR.jH f cs ds hl h2).free up hf
   |cV id off n cap size b hd hq hr h1 h2=>
    simp only[aZ]at hf ⊢;split at hf
    .rename_i q hqq;split at hf
     .rename_i hle;rw[yAJ hle];obtain⟨b',cur,T,e1,e2,e3,e4⟩:=hs.box id q hd hqq;rw[hr]at e1;simp only[yCK,yAb,yBJ,yBn]at e1;subst e1;exact row b off n cap size 0 cur.toList q.cells T cur k (λk' hk=>ih k' ye) e2 (hnew id b hd Ap) (λj v h=>h) e3 e4.1 hle h1 h2 hf
     .simp[PD.bI]at hf
    .simp[PD.bI]at hf
   |aU id ver off n cap size b hp h1 h2=>
    simp only[aZ]at hf ⊢;split at hf
    .rename_i e sz' eX cs hqq;split at hf
     .rename_i hle;rw[yAJ hle];obtain⟨rfl,rfl,hle⟩:=hle;obtain⟨_,C,hr,_⟩:=(hp.2 _ _ _ cs hqq).2 rfl;obtain⟨b',C',cur,e1,e2,e3,e4,e5,e6,e7,e8⟩:=hs.row id e _ _ cs hp.1 hqq;rw[hr]at e1;simp only[yBM,yAb,yBJ,yBn,yCJ]at e1;obtain⟨rfl,rfl⟩:=e1;exact row b off n cap sz' 0 (cur.toList.take cs.length) cs e cur k (λk' hk=>ih k' ye) e2 (hnew id b hp.1 Ap) (λj v h=>by
       rw[yAv]at h;split at h
       .exact h
       .cases h) e7 (λv qN=>e8 v (yAy qN)) hle h1 h2 hf
     .simp[PD.bI]at hf
    .simp[PD.bI]at hf
theorem aF.aAO{P:Program}{E:aE}(hE:aF P E)(hP:P.follows .mixedOrders=true){f:FuncId}{g:List PD->Option PD}
  (h:∀args p,g args=some p->∃N k p1 σ1,dG P E N 0 (.inl f) (args.map PD.strip) []=some (p1,σ1)/\(aZ σ1 k p1).strip=p/\(aZ σ1 k p1).bI=true/\PD.eJ (args.map PD.strip)=true) :
  aF P (E.add f (λ_ args σ=>match g args with|some p=>some (p,σ)|none=>none)):=by
 intro F fl f' g' args c vs p σ' hF hg hgo hs hX hv;unfold aE.add at hg;split at hg
 .rename_i e;subst e;simp only[yAb]at hg;subst hg;cases hga:g args with
  |none=>simp only[hga]at hgo;cases hgo
  |some q=>
   simp only[hga,yAb,yAc]at hgo;obtain⟨rfl,rfl⟩:=hgo;obtain⟨N,k,p1,σ1,hN,e1,e3,e2⟩:=h args q hga;have gR:aS c.bare vs (args.map PD.strip):=hv.strip.free (λa v h1 h2=>⟨(QR a).2 h1,h2⟩) e2;have:=(AI hE hP hF N).fn (c:=c.bare) hN hs.bare (λ_ _ h=>h.elim) gR;refine⟨this.1,λm=>yCE (this.2 m) λe w' he=>?_⟩;cases e with
   |returned v=>
    obtain⟨c1,rfl,rfl,hs1,nx,hvv,_⟩:=he;have hgr:c.w.grownBy c1.w none:=⟨nx.os,nx.tape,nx.output,nx.size,λk hk _=>nx.frame k hk (λ_ h=>h.elim)⟩;have hsc:=hs.grow hgr;refine⟨c.at c1.w,rfl,rfl,hsc,Nx.grow hs hgr,?_,λ_ h=>.inl h⟩;have hav:∀a,c1.av a->(c.at c1.w).av a:=λa h1=>by
     have h3:c1.X a:=h1.1;rw[nx.X]at h3;exact h3
    have hnew:∀id b,c1.D id->aY (c1.ρ id)=some b->∀j,(c.at c1.w).av ⟨b,j,none⟩:=λid b hd hb j=>by
     have hge:c.w.heap.size<=b:=by
      rcases yCe b c.w.heap.size with hlt|hge
      .exact(nx.back id b hd hb hlt).1.elim
      .exact hge
     refine⟨hs.fresh _ hge,λi o hi ho=>?_⟩;have key:∀b',aY (c.ρ i)=some b'->b≠b':=λb' hb' e=>by
      have:=hs.lt i b' hi hb';omega
     cases o with
     |none=>trivial
     |box p=>exact key
     |own e size n=>intro b' hb' e;exact absurd e (key b' hb')
     |row e size ver ds=>exact key
     |map es=>trivial
     |mark=>trivial
     |loop st fr ps asg bd=>trivial
    have:=(aA6 hs1 (c2:=c.at c1.w) rfl hav hnew k v p1 hvv e3).strip;rw[e1]at this;exact this
   |panicked ch=>exact he.elim
   |outgrown=>exact he.elim
 .exact ew
theorem aF.SM{P:Program}{E:aE}(hE:aF P E)(hP:P.follows .mixedOrders=true){f:FuncId}{g:List PD->Option PD}
  (h:∀args p,g args=some p->∃k p1 σ1,iI P E 0 (.inl f) (args.map PD.strip) [] p1 σ1/\(aZ σ1 k p1).strip=p/\(aZ σ1 k p1).bI=true/\PD.eJ (args.map PD.strip)=true) :
  aF P (E.add f (λ_ args σ=>match g args with|some p=>some (p,σ)|none=>none)):=
 hE.aAO hP λargs p hg=>by
  obtain⟨k,p1,σ1,⟨N,hN⟩,r⟩:=h args p hg;exact⟨N,k,p1,σ1,hN N (yAk _),r⟩
def RunT(P:Program)(E:aE)(f:FuncId)(args:List PD)(p:PD):Prop:=∃k p1 σ1,iI P E 0 (.inl f) args [] p1 σ1/\(aZ σ1 k p1).strip=p/\(aZ σ1 k p1).bI=true
theorem aF.aIm{P:Program}{E:aE}{f:FuncId}{α β:Type}(hE:aF P E)(hP:P.follows .mixedOrders=true){a:Em α}{r:Em β}{F:α->Option β}(h:∀x z,F x=some z->RunT P E f [a.aA x] (r.aA z)):aF P (E.add f (entry (bZ a r F))):=by
 refine hE.SM hP λargs p hg=>?_
 match args,hg with
 | [q],hg=>
   simp only[bZ]at hg;split at hg
   .rename_i x hx;split at hg
    .rename_i z hz;simp only[yAb]at hg;subst hg;obtain⟨k,p1,σ1,e1,e2,e3⟩:=h x z hz;have:=Em.mC hx;exact⟨k,p1,σ1,by simpa [this]using e1,e2,e3,by simp[this,PD.eJ,a.dJ]⟩
    .cases hg
   .cases hg
theorem aF.aIn{P:Program}{E:aE}{f:FuncId}{α β γ:Type}(hE:aF P E)(hP:P.follows .mixedOrders=true){a:Em α}{b:Em β}{r:Em γ}{F:α->β->Option γ}(h:∀x y z,F x y=some z->RunT P E f [a.aA x,b.aA y] (r.aA z)) :
  aF P (E.add f (entry (eD a b r F))):=by
 refine hE.SM hP λargs p hg=>?_
 match args,hg with
 | [q,s],hg=>
   simp only[eD]at hg;split at hg
   .rename_i x y hx hy;split at hg
    .rename_i z hz;simp only[yAb]at hg;subst hg;obtain⟨k,p1,σ1,e1,e2,e3⟩:=h x y z hz;have h1:=Em.mC hx;have h2:=Em.mC hy;exact⟨k,p1,σ1,by simpa [h1,h2]using e1,e2,e3,by simp[h1,h2,PD.eJ,a.dJ,b.dJ]⟩
    .cases hg
   .cases hg
end Go.Kz
namespace Go.Kz
open Go Go.Proofs
@[simp] theorem Tryz.uZ:bT prog 3=some 1:=yf
@[simp] theorem Tryz.pz3:eE prog 3=some (.int .i64 0):=yf
@[simp] theorem Tryz.pe3:fT prog 3=some (1,8):=yf
@[simp] theorem Tryz.ps4:bT prog 4=some 1:=yf
@[simp] theorem Tryz.ps5:bT prog 5=some 1:=yf
@[simp] theorem Tryz.pz5:eE prog 5=some (.int .u8 0):=yf
@[simp] theorem Tryz.ps9:bT prog 9=some 1:=yf
@[simp] theorem Tryz.pz9:eE prog 9=some (.str []):=yf
@[simp] theorem Tryz.aST:bT prog 22=some 1:=yf
@[simp] theorem Tryz.aSU:bT prog 23=some 1:=yf
@[simp] theorem Tryz.aSV:bT prog 24=some 1:=yf
@[simp] theorem Tryz.aSW:bT prog 26=some 3:=yf
@[simp] theorem Tryz.aSX:bT prog 31=some 1:=yf
@[simp] theorem Tryz.aSY:bT prog 32=some 1:=yf
@[simp] theorem Tryz.aSZ:bT prog 33=some 1:=yf
@[simp] theorem Tryz.aS0:bT prog 35=some 4:=yf
@[simp] theorem Tryz.aS1:eE prog 35=some (.agg [.str [],.slice 0 [] .full,.slice 0 [] .full,.slice 0 [] .full]):=yf
@[simp] theorem Tryz.aS2:bT prog 41=some 1:=yf
@[simp] theorem Tryz.aS3:eE prog 41=some (.slice 0 [] .full):=yf
@[simp] theorem Tryz.aS4:bT prog 45=some 2:=yf
@[simp] theorem Tryz.aS5:eE prog 45=some (.agg [.int .i64 0,.int .i64 0]):=yf
@[simp] theorem Tryz.aS6:bT prog 46=some 1:=yf
@[simp] theorem Tryz.aS7:bT prog 48=some 6:=yf
@[simp] theorem Tryz.aS8:eE prog 48=some (.agg [.str [],.str [],.int .i64 0,.int .i64 0,.int .i64 0,.slice 0 [] .full]):=yf
@[simp] theorem Tryz.aS9:fT prog 48=some (6,80):=yf
@[simp] theorem Tryz.aTa:bT prog 50=some 2:=yf
@[simp] theorem Tryz.aTb:eE prog 50=some (.agg [.int .i64 0,.int .i64 0]):=yf
@[simp] theorem Tryz.aTc:bT prog 51=some 1:=yf
@[simp] theorem Tryz.aTd:bT prog 53=some 5:=yf
@[simp] theorem Tryz.aTe:eE prog 53=some (.agg [.str [],.bool false,.int .i64 0,.int .i64 0,.slice 0 [] .full]):=yf
@[simp] theorem Tryz.aTf:bT prog 54=some 1:=yf
@[simp] theorem Tryz.aTg:bT prog 56=some 4:=yf
@[simp] theorem Tryz.aTh:eE prog 56=some (.agg [.str [],.int .i64 0,.int .i64 0,.slice 0 [] .full]):=yf
@[simp] theorem Tryz.aTi:bT prog 58=some 5:=yf
@[simp] theorem Tryz.aTj:eE prog 58=some (.agg [.str [],.int .i64 0,.int .i64 0,.int .i64 0,.bool false]):=yf
@[simp] theorem Tryz.aTk:bT prog 60=some 24:=yf
@[simp] theorem Tryz.aTl:eE prog 60=some (.agg [.int .i64 0,.int .i64 0,.int .i64 0,.str [],.str [],.str [],.int .i64 0,.int .i64 0,.int .i64 0,.slice 0 [] .full,.str [],.bool false,.int .i64 0,.int .i64 0,.slice 0 [] .full,.str [],.int .i64 0,.int .i64 0,.slice 0 [] .full,.str [],.int .i64 0,.int .i64 0,.int .i64 0,.bool false]):=yf
@[simp] theorem Tryz.aTm:bT prog 72=some 2:=yf
@[simp] theorem Tryz.aTn:eE prog 72=some (.agg [.int .i64 0,.int .i64 0]):=yf
@[simp] theorem Tryz.aTo:bT prog 74=some 4:=yf
@[simp] theorem Tryz.aTp:eE prog 74=some (.agg [.int .i64 0,.int .i64 0,.int .i64 0,.int .i64 0]):=yf
@[simp] theorem Tryz.aTq:bT prog 89=some 2:=yf
@[simp] theorem Tryz.aTr:eE prog 89=some (.agg [.int .i64 0,.int .i64 0]):=yf
@[simp] theorem Tryz.aTs:bT prog 90=some 1:=yf
@[simp] theorem Tryz.aTt:bT prog 92=some 3:=yf
@[simp] theorem Tryz.aTu:eE prog 92=some (.agg [.int .i64 0,.int .i64 0,.slice 0 [] .full]):=yf
@[simp] theorem Tryz.aTv:bT prog 93=some 1:=yf
@[simp] theorem Tryz.aTw:bT prog 95=some 4:=yf
@[simp] theorem Tryz.aTx:eE prog 95=some (.agg [.int .u8 0,.int .u8 0,.bool false,.slice 0 [] .full]):=yf
@[simp] theorem Tryz.aTy:bT prog 100=some 1:=yf
@[simp] theorem Tryz.aTz:bT prog 101=some 5:=yf
@[simp] theorem Tryz.aTA:bT prog 103=some 9:=yf
@[simp] theorem Tryz.aTB:bT prog 106=some 4:=yf
@[simp] theorem Tryz.aTC:bT prog 108=some 4:=yf
@[simp] theorem Tryz.aTD:eE prog 108=some (.agg [.int .u8 0,.int .u8 0,.int .i8 0,.bool false]):=yf
@[simp] theorem Tryz.aTE:eE prog 126=some (.agg [.str [],.slice 0 [] .full,.slice 0 [] .full,.slice 0 [] .full,.str [],.slice 0 [] .full,.slice 0 [] .full,.slice 0 [] .full]):=yf
@[simp] theorem Tryz.aTF:bT prog 175=some 3:=yf
@[simp] theorem Tryz.aTG:eE prog 175=some (.agg [.slice 0 [] .full,.int .i64 0,.int .i64 0]):=yf
@[simp] theorem Tryz.aTH:bT prog 226=some 1:=yf
@[simp] theorem Tryz.aTI:eE prog 226=some (.int .u64 0):=yf
@[simp] theorem Tryz.aTJ:fT prog 226=some (1,8):=yf
attribute [simp] underlying1 underlying2 underlying3 underlying4 underlying5 underlying6 underlying7 underlying8 underlying9 underlying10 underlying11 underlying12 underlying13 underlying14 underlying15 underlying16 underlying17 underlying18 underlying19 underlying20 underlying21 underlying22 underlying23 underlying24 underlying25 underlying26 underlying27 underlying28 underlying29 underlying30 underlying31 underlying32 underlying33 underlying34 underlying35 underlying36 underlying37 underlying38 underlying39 underlying40 underlying41 underlying42 underlying43 underlying44 underlying45 underlying46 underlying47 underlying48 underlying49 underlying50 underlying51 underlying52 underlying53 underlying54 underlying55 underlying56 underlying57 underlying58 underlying59 underlying60 underlying61 underlying62 underlying64 underlying66 underlying67 underlying68 underlying69 underlying71 underlying72 underlying73 underlying74 underlying75 underlying77 underlying78 underlying79 underlying80 underlying82 underlying83 underlying84 underlying85 underlying87 underlying88 underlying89 underlying90 underlying91 underlying92 underlying93 underlying94 underlying95 underlying96 underlying97 underlying98 underlying99 underlying100 underlying101 underlying102 underlying103 underlying104 underlying105 underlying106 underlying107 underlying108 underlying109 underlying110 underlying111 underlying112 underlying113 underlying115 underlying116 underlying117 underlying118 underlying119 underlying120 underlying121 underlying122 underlying123 underlying124 underlying125 underlying126 underlying127 underlying128 underlying129 underlying130 underlying131 underlying132 underlying133 underlying134 underlying135 underlying136 underlying137 underlying138 underlying139 underlying140 underlying141 underlying142 underlying143 underlying144 underlying145 underlying147 underlying148 underlying149 underlying150 underlying151 underlying152 underlying153 underlying154 underlying155 underlying157 underlying158 underlying159 underlying160 underlying161 underlying162 underlying163 underlying164 underlying165 underlying166 underlying167 underlying168 underlying169 underlying170 underlying171 underlying172 underlying173 underlying174 underlying175 underlying176 underlying177 underlying178 underlying179 underlying180 underlying181 underlying182 underlying183 underlying185 underlying186 underlying187 underlying188 underlying189 underlying190 underlying191 underlying192 underlying193 underlying194 underlying195 underlying196 underlying197 underlying198 underlying199 underlying200 underlying201 underlying202 underlying203 underlying204 underlying205 underlying206 underlying207 underlying208 underlying209 underlying210 underlying211 underlying212 underlying213 underlying215 underlying216 underlying217 underlying218 underlying219 underlying220 underlying221 underlying222 underlying223 underlying224 underlying225 underlying226 underlying227 underlying228 underlying229 underlying230 underlying231 underlying232 underlying233 underlying235 underlying236 underlying237 underlying238 underlying239 underlying240 underlying242 underlying243 underlying244 underlying245 underlying246 underlying247 underlying249 underlying250 underlying251 underlying252 underlying253 underlying254 underlying255 underlying256 underlying257 underlying258 underlying259 underlying260 underlying261 underlying262 underlying263 underlying264 underlying265 underlying266 underlying267 underlying268 underlying269 underlying270 underlying271 underlying273 underlying274 underlying275 underlying276 underlying278 underlying280 underlying281 underlying282 underlying283 underlying284 underlying285 underlying286 underlying287 underlying288 underlying289 underlying290 underlying291 underlying292
section
set_option maxRecDepth 10000
theorem Tryz.aA7:prog.eqGuardType prog.depth 45=false:=yf
theorem Tryz.aA8:rF prog 12 45=some [.i .i64,.i .i64]:=yf
theorem Tryz.aA9:fB prog 45=some true:=yf
@[simp] theorem Tryz.aTK{a0 b0:Int}{a1 b1:Int}:dF prog .eql 45 (.agg [.int .i64 a0,.int .i64 a1]) (.agg [.int .i64 b0,.int .i64 b1])=some (.bool (decide (a0=b0)&&(decide (a1=b1)&&true))):=LK Tryz.aA7 Tryz.aA8 Tryz.aA9 rfl
@[simp] theorem Tryz.aTL{a0 b0:Int}{a1 b1:Int}:dF prog .neq 45 (.agg [.int .i64 a0,.int .i64 a1]) (.agg [.int .i64 b0,.int .i64 b1])=some (.bool (!(decide (a0=b0)&&(decide (a1=b1)&&true)))):=LL Tryz.aA7 Tryz.aA8 Tryz.aA9 rfl
theorem Tryz.aBa:prog.eqGuardType prog.depth 50=false:=yf
theorem Tryz.aBb:rF prog 12 50=some [.i .i64,.i .i64]:=yf
theorem Tryz.aBc:fB prog 50=some true:=yf
@[simp] theorem Tryz.aTM{a0 b0:Int}{a1 b1:Int}:dF prog .eql 50 (.agg [.int .i64 a0,.int .i64 a1]) (.agg [.int .i64 b0,.int .i64 b1])=some (.bool (decide (a0=b0)&&(decide (a1=b1)&&true))):=LK Tryz.aBa Tryz.aBb Tryz.aBc rfl
@[simp] theorem Tryz.aTN{a0 b0:Int}{a1 b1:Int}:dF prog .neq 50 (.agg [.int .i64 a0,.int .i64 a1]) (.agg [.int .i64 b0,.int .i64 b1])=some (.bool (!(decide (a0=b0)&&(decide (a1=b1)&&true)))):=LL Tryz.aBa Tryz.aBb Tryz.aBc rfl
theorem Tryz.aBd:prog.eqGuardType prog.depth 58=false:=yf
theorem Tryz.aBe:rF prog 12 58=some [.s,.i .i64,.i .i64,.i .i64,.b]:=yf
theorem Tryz.aBf:fB prog 58=some true:=yf
@[simp] theorem Tryz.aTO{a0 b0:Ez}{a1 b1:Int}{a2 b2:Int}{a3 b3:Int}{a4 b4:Bool}:dF prog .eql 58 (.agg [.str a0,.int .i64 a1,.int .i64 a2,.int .i64 a3,.bool a4]) (.agg [.str b0,.int .i64 b1,.int .i64 b2,.int .i64 b3,.bool b4])=some (.bool (decide (a0=b0)&&(decide (a1=b1)&&(decide (a2=b2)&&(decide (a3=b3)&&(decide (a4=b4)&&true)))))):=LK Tryz.aBd Tryz.aBe Tryz.aBf rfl
@[simp] theorem Tryz.aTP{a0 b0:Ez}{a1 b1:Int}{a2 b2:Int}{a3 b3:Int}{a4 b4:Bool}:dF prog .neq 58 (.agg [.str a0,.int .i64 a1,.int .i64 a2,.int .i64 a3,.bool a4]) (.agg [.str b0,.int .i64 b1,.int .i64 b2,.int .i64 b3,.bool b4])=some (.bool (!(decide (a0=b0)&&(decide (a1=b1)&&(decide (a2=b2)&&(decide (a3=b3)&&(decide (a4=b4)&&true))))))):=LL Tryz.aBd Tryz.aBe Tryz.aBf rfl
theorem Tryz.aBg:prog.eqGuardType prog.depth 89=false:=yf
theorem Tryz.aBh:rF prog 12 89=some [.i .i64,.i .i64]:=yf
theorem Tryz.aBi:fB prog 89=some true:=yf
@[simp] theorem Tryz.aTQ{a0 b0:Int}{a1 b1:Int}:dF prog .eql 89 (.agg [.int .i64 a0,.int .i64 a1]) (.agg [.int .i64 b0,.int .i64 b1])=some (.bool (decide (a0=b0)&&(decide (a1=b1)&&true))):=LK Tryz.aBg Tryz.aBh Tryz.aBi rfl
@[simp] theorem Tryz.aTR{a0 b0:Int}{a1 b1:Int}:dF prog .neq 89 (.agg [.int .i64 a0,.int .i64 a1]) (.agg [.int .i64 b0,.int .i64 b1])=some (.bool (!(decide (a0=b0)&&(decide (a1=b1)&&true)))):=LL Tryz.aBg Tryz.aBh Tryz.aBi rfl
end
def Cl0:aE:=λ_=>none
theorem aNJ{P:Program}:aF P Cl0:=λ_ hg=>by cases hg
theorem bK:prog.follows .mixedOrders=true:=yf
noncomputable def Cl1:aE:=Cl0.add 73 (rP prog 31 6)
theorem aNK:aF prog Cl1:=aNJ.DT bK 31 6 48 rfl yf yf yf Af
noncomputable def Cl2:aE:=Cl1.add 74 (rP prog 32 5)
theorem aNL:aF prog Cl2:=aNK.DT bK 32 5 53 rfl yf yf yf Af
noncomputable def Cl3:aE:=Cl2.add 75 (rP prog 33 5)
theorem aNM:aF prog Cl3:=aNL.DT bK 33 5 58 rfl yf yf yf Af
noncomputable def Cl4:aE:=Cl3.add 109 (rP prog 46 1)
theorem aNN:aF prog Cl4:=aNM.DT bK 46 1 3 rfl yf yf yf Af
noncomputable def Cl5:aE:=Cl4.add 110 (rP prog 51 4)
theorem aNO:aF prog Cl5:=aNN.DT bK 51 4 56 rfl yf yf yf Af
noncomputable def Cl6:aE:=Cl5.add 118 (rP prog 54 3)
theorem aNP:aF prog Cl6:=aNO.DT bK 54 3 92 rfl yf yf yf Af
noncomputable def Cl7:aE:=Cl6.add 119 (rP prog 90 2)
theorem aNQ:aF prog Cl7:=aNP.DT bK 90 2 89 rfl yf yf yf Af
abbrev ClE:aE:=Cl7
theorem aBI:aF prog ClE:=aNQ
end Go.Kz
namespace Go.Kz
section
noncomputable section
section
variable{β:Type}
def cZ(n:Nat)(k:Nat->β):β:=match n with|0=>k 0|m+1=>k (m+1)
theorem C7(n:Nat)(k:Nat->β):cZ n k=k n:=by cases n<;>rfl
def MZ(z:Int)(k:Int->β):β:=match z with|.ofNat n=>cZ n λn=>k (.ofNat n)|.negSucc n=>cZ n λn=>k (.negSucc n)
theorem aAP(z:Int)(k:Int->β):MZ z k=k z:=by cases z<;>simp[MZ,C7]
def FL(b:UInt8)(k:UInt8->β):β:=cZ b.toNat λn=>k (UInt8.ofNat n)
theorem aAQ(b:UInt8)(k:UInt8->β):FL b k=k b:=by simp[FL,C7]
def lF{α:Type}(f:α->(α->β)->β)(l:List α):(List α->β)->β:=
 List.rec (motive:=λ_=>(List α->β)->β) (λk=>k []) (λx _ ih k=>f x λx'=>ih λxs'=>k (x'::xs')) l
theorem AY{α:Type}{f:α->(α->β)->β}(hf:∀x k,f x k=k x):∀(l:List α) (k:List α->β),lF f l k=k l
 | [],_=>rfl
 |x::xs,k=>by
  show f x (λx'=>lF f xs λxs'=>k (x'::xs'))=_
  rw[hf,AY hf xs]
def M0(b:Bool)(k:Bool->β):β:=match b with|true=>k true|false=>k false
theorem R6(b:Bool)(k:Bool->β):M0 b k=k b:=by cases b<;>rfl
def R7(x:IntKind)(k:IntKind->β):β:=match x with
 |.i8=>k .i8|.i16=>k .i16|.i32=>k .i32|.i64=>k .i64|.u8=>k .u8|.u16=>k .u16|.u32=>k .u32|.u64=>k .u64
theorem aAR(x:IntKind)(k:IntKind->β):R7 x k=k x:=by cases x<;>rfl
def M1(t:Tok)(k:Tok->β):β:=match t with
 |.any=>k .any|.full=>k .full|.nil=>k .nil|.iK=>k .iK|.jF=>k .jF|.own id=>cZ id λid=>k (.own id)
theorem aAS(t:Tok)(k:Tok->β):M1 t k=k t:=by cases t<;>simp[M1,C7]
def uF:Nat->PD->(PD->β)->β
 |0,p,k=>k p
 |n+1,p,k=>match p with
  |.bool b=>M0 b λb=>k (.bool b)
  |.int x z=>R7 x λx=>MZ z λz=>k (.int x z)
  |.str l=>lF FL l λl=>k (.str l)
  |.agg cs=>lF (uF n) cs λcs=>k (.agg cs)
  |.slice s xs t=>cZ s λs=>lF (uF n) xs λxs=>M1 t λt=>k (.slice s xs t)
  |.ptr id off=>cZ id λid=>cZ off λoff=>k (.ptr id off)
  |.eB cs off=>lF (uF n) cs λcs=>cZ off λoff=>k (.eB cs off)
  |.fV=>k .fV
  |.func f cs=>cZ f λf=>lF (uF n) cs λcs=>k (.func f cs)
  |.jH f cs=>cZ f λf=>lF (uF n) cs λcs=>k (.jH f cs)
  |.yield id=>cZ id λid=>k (.yield id)
  |.iB=>k .iB
  |.fF v=>k (.fF v)
  |.typed t cs=>cZ t λt=>lF (uF n) cs λcs=>k (.typed t cs)
  |.cV id off m sz=>cZ id λid=>cZ off λoff=>cZ m λm=>cZ sz λsz=>k (.cV id off m sz)
  |.aU id v off m sz=>cZ id λid=>cZ v λv=>cZ off λoff=>cZ m λm=>cZ sz λsz=>k (.aU id v off m sz)
  |.dH id v off=>cZ id λid=>cZ v λv=>cZ off λoff=>k (.dH id v off)
  |.eO id=>cZ id λid=>k (.eO id)
  |.iface t q=>cZ t λt=>uF n q λq=>k (.iface t q)
  |.aP vs=>lF (uF n) vs λvs=>k (.aP vs)
theorem R8:∀(n:Nat) (p:PD) (k:PD->β),uF n p k=k p
 |0,_,_=>rfl
 |n+1,p,k=>by
  have h:∀(l:List PD) (k:List PD->β),lF (uF n) l k=k l:=AY (R8 n)
  have hb:∀(l:List UInt8) (k:List UInt8->β),lF FL l k=k l:=AY aAQ
  cases p<;>simp[uF,C7,aAP,R6,aAR,aAS,h,hb,R8 n]
def AZ{α:Type}(l:List α)(k:List α->β):β:=lF (λx k=>k x) l k
theorem M5{α:Type}(l:List α)(k:List α->β):AZ l k=k l:=AY (λ_ _=>rfl) l k
def R9(p:PD)(k:PD->β):β:=match p with
 |.agg cs=>AZ cs λcs=>k (.agg cs)
 |.typed t cs=>AZ cs λcs=>k (.typed t cs)
 |p=>k p
theorem aH8(p:PD)(k:PD->β):R9 p k=k p:=by cases p<;>simp[R9,M5]
def IS(o:aB)(k:aB->β):β:=match o with
 |.none=>k .none
 |.box p=>R9 p λp=>k (.box p)
 |.own e s n=>cZ e λe=>cZ s λs=>cZ n λn=>k (.own e s n)
 |.row e s v cs=>cZ e λe=>cZ s λs=>cZ v λv=>AZ cs λcs=>k (.row e s v cs)
 |.map es=>AZ es λes=>k (.map es)
 |.mark=>k .mark
 |.loop st fr ps a b=>AZ fr λfr=>k (.loop st fr ps a b)
theorem aAT(o:aB)(k:aB->β):IS o k=k o:=by cases o<;>simp[IS,aH8,C7,M5]
def vC(σ:List aB)(k:List aB->β):β:=lF IS σ k
theorem FM(σ:List aB)(k:List aB->β):vC σ k=k σ:=AY aAT σ k
def IT(p:PD)(k:PD->β):β:=match p with
 |.bool b=>M0 b λb=>k (.bool b)
 |.int x z=>k (.int x z)
 |.str l=>k (.str l)
 |.agg cs=>k (.agg cs)
 |.slice s xs t=>k (.slice s xs t)
 |.ptr id off=>k (.ptr id off)
 |.eB cs off=>k (.eB cs off)
 |.fV=>k .fV
 |.func f cs=>k (.func f cs)
 |.jH f cs=>k (.jH f cs)
 |.yield id=>k (.yield id)
 |.iB=>k .iB
 |.fF v=>k (.fF v)
 |.typed t cs=>k (.typed t cs)
 |.cV id off m sz=>k (.cV id off m sz)
 |.aU id v off m sz=>k (.aU id v off m sz)
 |.dH id v off=>k (.dH id v off)
 |.eO id=>k (.eO id)
 |.iface t q=>k (.iface t q)
 |.aP vs=>k (.aP vs)
theorem SC(p:PD)(k:PD->β):IT p k=k p:=by cases p<;>simp[IT,R6]
def vD:Nat->PD->(PD->β)->β
 |0,p,k=>IT p k
 |n+1,p,k=>match p with
  |.bool b=>M0 b λb=>k (.bool b)
  |.int x z=>R7 x λx=>MZ z λz=>k (.int x z)
  |.str l=>lF FL l λl=>k (.str l)
  |.agg cs=>lF (vD n) cs λcs=>k (.agg cs)
  |.slice s xs t=>cZ s λs=>lF (vD n) xs λxs=>M1 t λt=>k (.slice s xs t)
  |.ptr id off=>cZ id λid=>cZ off λoff=>k (.ptr id off)
  |.eB cs off=>AZ cs λcs=>cZ off λoff=>k (.eB cs off)
  |.func f cs=>cZ f λf=>lF (vD n) cs λcs=>k (.func f cs)
  |.jH f cs=>cZ f λf=>lF (vD n) cs λcs=>k (.jH f cs)
  |.cV id off m sz=>cZ id λid=>cZ off λoff=>cZ m λm=>cZ sz λsz=>k (.cV id off m sz)
  |.aU id v off m sz=>cZ id λid=>cZ v λv=>cZ off λoff=>cZ m λm=>cZ sz λsz=>k (.aU id v off m sz)
  |.dH id v off=>cZ id λid=>cZ v λv=>cZ off λoff=>k (.dH id v off)
  |.eO id=>cZ id λid=>k (.eO id)
  |.iface t q=>cZ t λt=>vD n q λq=>k (.iface t q)
  |.aP vs=>lF (vD n) vs λvs=>k (.aP vs)
  |p=>k p
theorem M6:∀(n:Nat) (p:PD) (k:PD->β),vD n p k=k p
 |0,p,k=>SC p k
 |n+1,p,k=>by
  have h:∀(l:List PD) (k:List PD->β),lF (vD n) l k=k l:=AY (M6 n)
  have hb:∀(l:List UInt8) (k:List UInt8->β),lF FL l k=k l:=AY aAQ
  cases p<;>simp[vD,C7,aAP,R6,aAR,aAS,h,hb,M6 n,M5]
def A0(l:List aB)(n:Nat):(List aB->β)->β:=
 List.rec (motive:=λ_=>Nat->(List aB->β)->β) (λ_ k=>k []) (λx r ih n k=>Nat.rec (motive:=λ_=>β) (IS x λx=>k (x::r)) (λn _=>ih n λr=>k (x::r)) n) l n
theorem aAU:∀(l:List aB) (n:Nat) (k:List aB->β),A0 l n k=k l
 | [],_,_=>rfl
 |x::r,0,k=>by
  show IS x (λx=>k (x::r))=_
  rw[aAT]
 |x::r,n+1,k=>by
  show A0 r n (λr=>k (x::r))=_
  rw[aAU r]
def handed(p:PD):Option Nat:=match p with
 |.ptr id _=>some id
 |.dH id _ _=>some id
 |.cV id _ _ _=>some id
 |.aU id _ _ _ _=>some id
 |.eO id=>some id
 |.slice _ _ (.own id)=>some id
 |_=>none
def M7(fr:List PD)(σ:List aB)(op:Op)(p:PD)(σ':List aB)(k:List aB->β):β:=match op with
 |.load _ _=>k σ'
 |.lookup _ _ _ _=>k σ'
 |.buildSlice _ _ _=>k σ'
 |.store _ x _=>(match aX fr x with|some a=>(match handed a with|some id=>A0 σ' id k|none=>vC σ' k)|none=>vC σ' k)
 |.alloc _=>A0 σ' σ.length k
 |.box _ _=>A0 σ' σ.length k
 |.mapUpdate _ x _ _=>(match aX fr x with|some a=>(match handed a with|some id=>A0 σ' id k|none=>vC σ' k)|none=>vC σ' k)
 |.makeMap _ _=>A0 σ' σ.length k
 |.call { callee:=.builtin .append,.. }=>(match handed p with|some id=>A0 σ' id k|none=>k σ')
 |_=>vC σ' k
theorem aAV(fr:List PD)(σ:List aB)(op:Op)(p:PD)(σ':List aB)(k:List aB->β):M7 fr σ op p σ' k=k σ':=by
 unfold M7;split<;>(try split)<;>(try split)<;>simp[aAU,FM]
def SD(l:List PD)(n:Nat)(p:PD):(List PD->β)->β:=
 List.rec (motive:=λ_=>Nat->(List PD->β)->β) (λ_ k=>k []) (λx r ih n k=>Nat.rec (motive:=λ_=>β) (k (p::r)) (λn _=>ih n λr=>k (x::r)) n) l n
theorem aAW:∀(l:List PD) (n:Nat) (p:PD) (k:List PD->β),SD l n p k=k (l.set n p)
 | [],_,_,_=>rfl
 |_::_,0,_,_=>rfl
 |x::r,n+1,p,k=>by
  show SD r n p (λr=>k (x::r))=_
  rw[aAW r];rfl
def uG(fr:List PD)(dst:Option Tmp)(p:PD)(k:List PD->β):β:=match dst with
 |some d=>SD fr d p k
 |none=>k fr
theorem FN(fr:List PD)(dst:Option Tmp)(p:PD)(k:List PD->β):uG fr dst p k=k (aW fr dst p):=by cases dst<;>simp[uG,aW,aAW]
def IU(r:Option (PD×List aB))(k:PD->List aB->β)(d:β):β:=match r with
 |some (p,σ)=>uF 30 p λp=>vC σ λσ=>k p σ
 |none=>d
theorem aH9(r:Option (PD×List aB))(k:PD->List aB->β)(d:β):IU r k d=match r with|some (p,σ)=>k p σ|none=>d:=by
 cases r with
 |none=>rfl
 |some x=>obtain⟨p,σ⟩:=x;simp[IU,R8,FM]
end
variable{P:Program}{E:aE}
def aIa:Op->Bool
 |.move _|.assign _|.pick _ _ _|.extract _ _|.load _ _=>true
 |_=>false
def FO{β:Type}(op:Op)(p:PD)(k:PD->β):β:=if aIa op then IT p k else vD 3 p k
theorem M8{β:Type}(op:Op)(p:PD)(k:PD->β):FO op p k=k p:=by unfold FO;split<;>simp[SC,M6]
def FP{β:Type}(P:Program)(call:bY)(fl:Nat)(fr:List PD)(σ:List aB)(op:Op)(k:PD->List aB->β)(d:β):β:=
 match fJ fr op with
 |some (tg,args)=>lF IT args λargs=>(match call fl tg args σ with
  |some (p,σ)=>k p σ
  |none=>d)
 |none=>match dL P fr op with
  |some p=>FO op p λp=>k p σ
  |none=>match cJ P fl fr σ op with
   |some (p,σ')=>FO op p λp=>M7 fr σ op p σ' λσ'=>k p σ'
   |none=>d
theorem SE{β:Type}(call:bY)(fl:Nat)(fr:List PD)(σ:List aB)(op:Op)(k:PD->List aB->β)(d:β):FP P call fl fr σ op k d=match bX P call fl fr σ op with|some (p,σ)=>k p σ|none=>d:=by
 unfold FP bX;cases fJ fr op with
 |some x=>obtain⟨tg,args⟩:=x;simp only[AY SC]
 |none=>
  simp only[pop];cases dL P fr op with
  |some p=>simp[M8]
  |none=>
   exact ow
def M9(P:Program)(call:bY)(fl:Nat)(ops:Array Oper)(l:List Oper):List PD->List aB->Option (List PD×List aB):=
 List.rec (motive:=λ_=>List PD->List aB->Option (List PD×List aB)) (λfr σ=>some (fr,σ))
  (λo _ ih fr σ=>if Region.wanted o (bM ops fr)then FP P call fl fr σ o.op (λp σ'=>uG fr o.dst p λfr=>ih fr σ') none
   else uG fr o.dst (.aP []) λfr=>ih fr σ) l
theorem SF(call:bY)(fl:Nat)(ops:Array Oper):∀(l:List Oper) (fr:List PD) (σ:List aB),M9 P call fl ops l fr σ=dE P call fl ops l fr σ
 | [],_,_=>rfl
 |o::rest,fr,σ=>by
  show(if Region.wanted o (bM ops fr)then FP P call fl fr σ o.op (λp σ'=>uG fr o.dst p λfr=>M9 P call fl ops rest fr σ') none
   else uG fr o.dst (.aP []) λfr=>M9 P call fl ops rest fr σ)=_
  unfold dE;split
  .rw[SE];cases bX P call fl fr σ o.op with
   |none=>rfl
   |some x=>obtain⟨p,σ'⟩:=x;simp only[FN,SF call fl ops rest]
  .simp only[FN,SF call fl ops rest]
def IV(P:Program)(call:bY)(fl:Nat)(ops:Array Oper)(fr:List PD)(σ:List aB):Option (List PD×List aB):=
 match M9 P call fl ops ops.toList fr σ with
 |some x=>some x
 |none=>ME P call fl ops ops.toList fr σ
theorem aIb(call:bY)(fl:Nat)(ops:Array Oper)(fr:List PD)(σ:List aB):IV P call fl ops fr σ=AN P call fl ops fr σ:=by
 unfold IV AN;rw[SF];rfl
def IW{β:Type}(P:Program)(call:bY)(fl:Nat)(free:Bool)(i:Nat)(fr:List PD)(σ:List aB)(op:Op)(k:PD->List aB->β)(d:β):β:=
 if dW op then(match dL P fr op with|some p=>FO op p λp=>k p σ|none=>d)
 else if cE op then cZ i λi=>k (.ptr i 0) σ
 else if cU op&&!free then FP P call (max fl σ.length) fr σ op (λp σ'=>vC (σ++σ'.drop σ.length) λσ'=>k p σ') d
 else if cU op then FP P call fl fr σ op k d
 else match cJ P fl fr σ op with
  |some (p,σ')=>FO op p λp=>M7 fr σ op p σ' λσ'=>k p σ'
  |none=>d
theorem aAX{β:Type}(call:bY)(fl:Nat)(free:Bool)(i:Nat)(fr:List PD)(σ:List aB)(op:Op)(k:PD->List aB->β)(d:β):IW P call fl free i fr σ op k d=match fL P call fl free i fr σ op with|some (p,σ)=>k p σ|none=>d:=by
 unfold IW fL;split
 .cases dL P fr op<;>simp[M8]
 .split
  .simp[C7]
  .split
   .rw[SE];cases bX P call (max fl σ.length) fr σ op with
    |none=>rfl
    |some x=>obtain⟨p,σ'⟩:=x;simp[FM]
   .split
    .rw[SE]
    .exact ow
def FQ(P:Program)(call:bY)(fl:Nat)(ops:Array Oper)(ms:List Nat):Nat->Nat->List Oper->List PD->List aB->List (Option Nat)->Option (List (Option Nat)×Ey×List aB)
 |_,_,[],fr,σ,ft=>some (ft.reverse,fr,σ)
 |i,k,o::rest,fr,σ,ft=>
  if Region.wanted o (bM ops fr)then
   IW P call fl (jC ops.toList ms i) k fr σ o.op (λp σ'=>uG fr o.dst p λfr'=>FQ P call fl ops ms (i+1) (if cE o.op then k+1 else k) rest fr' σ' (j6 fr o.op::ft)) none
  else uG fr o.dst (.aP []) λfr'=>FQ P call fl ops ms (i+1) (if cE o.op then k+1 else k) rest fr' σ (none::ft)
theorem SG(call:bY)(fl:Nat)(ops:Array Oper)(ms:List Nat):∀(l:List Oper) (i k:Nat) (fr:List PD) (σ:List aB) (ft:List (Option Nat)),
  FQ P call fl ops ms i k l fr σ ft=match eL P call fl ops ms i k l fr σ with|some (tr,fr',σ')=>some (ft.reverse++tr.map TE.iJ,fr',σ')|none=>none
 | [],i,k,fr,σ,ft=>by simp[FQ,eL]
 |o::rest,i,k,fr,σ,ft=>by
  unfold FQ eL;simp only;split
  .rw[aAX];cases fL P call fl (jC ops.toList ms i) k fr σ o.op with
   |none=>rfl
   |some x=>
    obtain⟨p,σ'⟩:=x;simp only[FN,SG call fl ops ms rest];cases eL P call fl ops ms (i+1) (if cE o.op=true then k+1 else k) rest (aW fr o.dst p) σ' with
    |none=>rfl
    |some y=>obtain⟨tr,fr',yQ⟩:=y;simp
  .simp only[FN,SG call fl ops ms rest];cases eL P call fl ops ms (i+1) (if cE o.op=true then k+1 else k) rest (aW fr o.dst (.aP [])) σ with
   |none=>rfl
   |some y=>obtain⟨tr,fr',yQ⟩:=y;simp
def SH(ops:List Oper)(ms:List Nat)(ft:List (Option Nat)):Bool:=
 (List.range ops.length).all λk=>!dZ eW ops k||(List.range ops.length).all λi=>!dZ dM ops i||!loose ms i k ||
  match (ft[i]?).bind id,(ft[k]?).bind id with
  |some a,some b=>a != b
  |_,_=>true
theorem aIc(ops:List Oper)(ms:List Nat)(tr:List TE):SH ops ms (tr.map TE.iJ)=oP ops ms tr:=by
 have h:∀i,((tr.map TE.iJ)[i]?).bind id=(tr[i]?).bind TE.iJ:=λi=>by
  rw[yAo];cases tr[i]?<;>rfl
 unfold SH oP;simp only[h];rfl
def SI(ops:Array Oper):List (Oper×Bool):=ops.toList.zipIdx.map λx=>(x.1,jC ops.toList (bW ops.toList []) x.2)
def calm(ops:Array Oper):Bool:=tT ops (bW ops.toList [])&&(List.range ops.toList.length).all λk=>!dZ eW ops.toList k||(List.range ops.toList.length).all λi=>!dZ dM ops.toList i||!loose (bW ops.toList []) i k
def C8(P:Program)(call:bY)(fl:Nat)(ops:Array Oper)(l:List (Oper×Bool)):Nat->List PD->List aB->Option (List PD×List aB):=
 List.rec (motive:=λ_=>Nat->List PD->List aB->Option (List PD×List aB)) (λ_ fr σ=>some (fr,σ))
  (λo _ ih k fr σ=>if Region.wanted o.1 (bM ops fr)then IW P call fl o.2 k fr σ o.1.op (λp σ'=>uG fr o.1.dst p λfr'=>ih (if cE o.1.op then k+1 else k) fr' σ') none
   else uG fr o.1.dst (.aP []) λfr'=>ih (if cE o.1.op then k+1 else k) fr' σ) l
theorem SJ(call:bY)(fl:Nat)(ops:Array Oper)(ms:List Nat):∀(l:List Oper) (i k:Nat) (fr:List PD) (σ:List aB),
  C8 P call fl ops ((l.zipIdx i).map λx=>(x.1,jC ops.toList ms x.2)) k fr σ=match eL P call fl ops ms i k l fr σ with|some (_,fr',σ')=>some (fr',σ')|none=>none
 | [],i,k,fr,σ=>rfl
 |o::rest,i,k,fr,σ=>by
  show(if Region.wanted o (bM ops fr)then IW P call fl (jC ops.toList ms i) k fr σ o.op (λp σ'=>uG fr o.dst p λfr'=>C8 P call fl ops ((rest.zipIdx (i+1)).map λx=>(x.1,jC ops.toList ms x.2)) (if cE o.op then k+1 else k) fr' σ') none
   else uG fr o.dst (.aP []) λfr'=>C8 P call fl ops ((rest.zipIdx (i+1)).map λx=>(x.1,jC ops.toList ms x.2)) (if cE o.op then k+1 else k) fr' σ)=_
  unfold eL;simp only;split
  .rw[aAX];cases fL P call fl (jC ops.toList ms i) k fr σ o.op with
   |none=>rfl
   |some x=>
    obtain⟨p,σ'⟩:=x;simp only[FN,SJ call fl ops ms rest];cases eL P call fl ops ms (i+1) (if cE o.op=true then k+1 else k) rest (aW fr o.dst p) σ' with
    |none=>rfl
    |some y=>rfl
  .simp only[FN,SJ call fl ops ms rest];cases eL P call fl ops ms (i+1) (if cE o.op=true then k+1 else k) rest (aW fr o.dst (.aP [])) σ with
   |none=>rfl
   |some y=>rfl
theorem aId{ops:Fc}(h:calm ops=true)(tr:List TE):tT ops (bW ops.toList [])=true/\oP ops.toList (bW ops.toList []) tr=true:=by
 simp only[calm,yAr]at h;refine⟨h.1,?_⟩;have h2:=h.2;simp only[oP,yAn,yAU,yBp]at h2 ⊢;intro k hk;rcases h2 k hk with h3|h3
 .exact .inl h3
 .refine .inr λi hi=>.inl ?_
  rcases h3 i hi with h4|h4
  .exact .inl h4
  .exact .inr h4
def IX(P:Program)(call:bY)(fl:Nat)(ops:Array Oper)(fr:List PD)(σ:List aB):Option (List PD×List aB):=
 if calm ops then
  match lA P ops.toList with
  |some []=>(match C8 P call fl ops (SI ops) σ.length fr σ with
   |some x=>some x
   |none=>lB P call fl ops fr σ)
  |some (h::hs)=>vC (σ++h::hs) λσ1=>(match C8 P call fl ops (SI ops) σ.length fr σ1 with
   |some x=>some x
   |none=>lB P call fl ops fr σ)
  |none=>lB P call fl ops fr σ
 else if tT ops (bW ops.toList [])then
  match lA P ops.toList with
  |some hs=>vC (σ++hs) λσ1=>(match FQ P call fl ops (bW ops.toList []) 0 σ.length ops.toList fr σ1 []with
   |some (ft,fr',σ')=>if SH ops.toList (bW ops.toList []) ft then some (fr',σ')else lB P call fl ops fr σ
   |none=>lB P call fl ops fr σ)
  |none=>lB P call fl ops fr σ
 else lB P call fl ops fr σ
theorem aAY(call:bY)(fl:Nat)(ops:Array Oper)(fr:List PD)(σ hs:List aB)(hc:calm ops=true)(hh:lA P ops.toList=some hs) :
  (match C8 P call fl ops (SI ops) σ.length fr (σ++hs)with
   |some x=>some x
   |none=>lB P call fl ops fr σ)=lB P call fl ops fr σ:=by
 have he:=SJ (P:=P) call fl ops (bW ops.toList []) ops.toList 0 σ.length fr (σ++hs);show(match C8 P call fl ops (ops.toList.zipIdx.map λx=>(x.1,jC ops.toList (bW ops.toList []) x.2)) σ.length fr (σ++hs)with|some x=>some x|none=>_)=_
 rw[he];cases hd:eL P call fl ops (bW ops.toList []) 0 σ.length ops.toList fr (σ++hs)with
 |none=>rfl
 |some y=>
  obtain⟨tr,fr',σ'⟩:=y;obtain⟨hr,hf⟩:=aId hc tr;exact kz
theorem aIe(call:bY)(fl:Nat)(ops:Array Oper)(fr:List PD)(σ:List aB):IX P call fl ops fr σ=lB P call fl ops fr σ:=by
 unfold IX;split
 .rename_i hc;split
  .rename_i hh;have:=aAY (P:=P) call fl ops fr σ [] hc hh;rw[yAl]at this;exact this
  .rename_i h hs hh;rw[FM];exact aAY call fl ops fr σ (h::hs) hc hh
  .rfl
 .split
  .rename_i hr;split
   .rename_i hs hh;rw[FM,SG];cases hd:eL P call fl ops (bW ops.toList []) 0 σ.length ops.toList fr (σ++hs)with
    |none=>rfl
    |some y=>
     obtain⟨tr,fr',σ'⟩:=y;simp only[List.reverse_nil,yAO,aIc];split
     .rename_i hf;exact kz
     .rfl
   .rfl
  .rfl
def SK(P:Program)(code:sH)(fl:Nat)(f:FuncId)(args:List PD)(σ:List aB):Option (PD×List aB):=
 match P.funcs[f]? with
 |some fn=>match fn.body with
  |some c=>AZ (args++List.replicate (fn.ntmps-args.length) (.aP [])) λfr=>(match code none c fl fr [] σ with
   |some r=>(match eF P fl fn r with
    |some (p,σ)=>vD 1 p λp=>(match r.ms with
     | []=>some (p,σ)
     |_=>vC σ λσ=>some (p,σ))
    |none=>none)
   |none=>none)
  |none=>none
 |none=>none
theorem aIf(code:sH)(fl:Nat)(f:FuncId)(args:List PD)(σ:List aB):SK P code fl f args σ=CR P code fl f args σ:=by
 unfold SK CR;cases P.funcs[f]? with
 |none=>rfl
 |some fn=>
  simp only;cases fn.body with
  |none=>rfl
  |some c=>
   simp only[M5];cases code none c fl (args++List.replicate (fn.ntmps-args.length) (.aP [])) [] σ with
   |none=>rfl
   |some r=>
    simp only;cases eF P fl fn r with
    |none=>rfl
    |some x=>
     obtain⟨p,σ⟩:=x;simp only[M6];split<;>simp[FM]
def yX(P:Program)(E:aE)(code:sH):bY
 |fl,.inl f,args,σ=>match E f with
  |some g=>IU (g fl args σ) (λp σ=>some (p,σ)) none
  |none=>SK P code fl f args σ
 |fl,.inr id,args,σ=>IU (EL code fl id args σ) (λp σ=>some (p,σ)) none
theorem aAZ(code:sH):yX P E code=qH P E code:=by
 have h:∀r:Option (PD×List aB),IU r (λp σ=>some (p,σ)) none=r:=λr=>by
  rw[aH9];cases r with
  |none=>rfl
  |some x=>rfl
 funext fl tg args σ
 cases tg with
 |inl f=>
  simp only[yX,qH];cases E f with
  |none=>exact aIf code fl f args σ
  |some g=>exact h _
 |inr id=>exact h (EL code fl id args σ)
def sP(P:Program)(E:aE)(n:Nat):sH:=
 Nat.rec (motive:=λ_=>sH) (λ_ _ _ _ _ _=>none) (λ_ self rd c fl fr ms σ=>
  match c with
  |.skip=>some ⟨.normal,fr,ms,σ⟩
  |.region _ ops false=>match IV P (yX P E self) fl ops fr σ with
    |some (fr',σ')=>some ⟨.normal,fr',ms,σ'⟩
    |none=>none
  |.region _ ops true=>match IX P (yX P E self) fl ops fr σ with
    |some (fr',σ')=>some ⟨.normal,fr',ms,σ'⟩
    |none=>none
  |.seq x y=>match self rd x fl fr ms σ with
    |some ⟨.normal,fr',ms',σ'⟩=>self rd y fl fr' ms' σ'
    |r=>r
  |.cond g x y=>match aX fr g with
    |some (.bool true)=>self rd x fl fr ms σ
    |some (.bool false)=>self rd y fl fr ms σ
    |_=>none
  |.block id b=>match self rd b fl fr ms σ with
    |some ⟨.exit k,fr',ms',σ'⟩=>some ⟨if k=id then .normal else .exit k,fr',ms',σ'⟩
    |r=>r
  |.loop b=>match self rd b fl fr ms σ with
    |some ⟨.normal,fr',ms',σ'⟩=>self rd (.loop b) fl fr' ms' σ'
    |r=>r
  |.rangeFunc g ps assign body=>match aX fr g with
    |some (.func gf cap)=>EM (yX P E self) rd gf cap ps.toList assign body fl fr ms σ
    |_=>none
  |.exit id=>some ⟨.exit id,fr,ms,σ⟩
  |.ret=>some ⟨.ret,fr,ms,σ⟩
  |_=>none) n
theorem aIg(n:Nat):sP P E (n+1)=λrd c fl fr ms σ=>
  match c with
  |.skip=>some ⟨.normal,fr,ms,σ⟩
  |.region _ ops false=>match IV P (yX P E (sP P E n)) fl ops fr σ with
    |some (fr',σ')=>some ⟨.normal,fr',ms,σ'⟩
    |none=>none
  |.region _ ops true=>match IX P (yX P E (sP P E n)) fl ops fr σ with
    |some (fr',σ')=>some ⟨.normal,fr',ms,σ'⟩
    |none=>none
  |.seq x y=>match sP P E n rd x fl fr ms σ with
    |some ⟨.normal,fr',ms',σ'⟩=>sP P E n rd y fl fr' ms' σ'
    |r=>r
  |.cond g x y=>match aX fr g with
    |some (.bool true)=>sP P E n rd x fl fr ms σ
    |some (.bool false)=>sP P E n rd y fl fr ms σ
    |_=>none
  |.block id b=>match sP P E n rd b fl fr ms σ with
    |some ⟨.exit k,fr',ms',σ'⟩=>some ⟨if k=id then .normal else .exit k,fr',ms',σ'⟩
    |r=>r
  |.loop b=>match sP P E n rd b fl fr ms σ with
    |some ⟨.normal,fr',ms',σ'⟩=>sP P E n rd (.loop b) fl fr' ms' σ'
    |r=>r
  |.rangeFunc g ps assign body=>match aX fr g with
    |some (.func gf cap)=>EM (yX P E (sP P E n)) rd gf cap ps.toList assign body fl fr ms σ
    |_=>none
  |.exit id=>some ⟨.exit id,fr,ms,σ⟩
  |.ret=>some ⟨.ret,fr,ms,σ⟩
  |_=>none:=rfl
theorem aA0:∀n,sP P E n=gS P E n
 |0=>rfl
 |n+1=>by
  funext rd c fl fr ms σ
  have h1:∀call fl ops fr σ,IV P call fl ops fr σ=AN P call fl ops fr σ:=aIb;have h2:∀call fl ops fr σ,IX P call fl ops fr σ=lB P call fl ops fr σ:=aIe;rw[aIg];unfold gS;rw[aA0 n,aAZ];simp only[h1,h2];cases c with
  |region id ops d=>cases d<;>rfl
  |_=>rfl
def MW(P:Program)(E:aE)(n:Nat):bY:=yX P E (sP P E n)
theorem aAN(n:Nat):MW P E n=dG P E n:=by
 unfold MW dG;rw[aA0,aAZ]
end
end
def sN{α:Type}(f:α->α->Bool):List α->List α->Bool
 | [],[]=>true
 |x::xs,y::ys=>f x y&&sN f xs ys
 |_,_=>false
theorem R4{α:Type}{f:α->α->Bool}(hf:∀x y,f x y=true->x=y):∀xs ys:List α,sN f xs ys=true->xs=ys
 | [],[],_=>rfl
 |x::xs,y::ys,h=>by
  simp only[sN,yAr]at h;rw[hf x y h.1,R4 hf xs ys h.2]
 | [],_::_,h=>by simp[sN]at h
 |_::_,[],h=>by simp[sN]at h
def R5:Tok->Tok->Bool
 |.any,.any=>true
 |.full,.full=>true
 |.nil,.nil=>true
 |.iK,.iK=>true
 |.jF,.jF=>true
 |.own a,.own b=>a==b
 |_,_=>false
theorem aH6(a b:Tok)(h:R5 a b=true):a=b:=by
 cases a<;>cases b<;>simp[R5]at h<;>first|rfl|(rw[h])
def rN:Nat->PD->PD->Bool
 |0,_,_=>false
 |n+1,p,q=>match p,q with
  |.bool a,.bool b=>a==b
  |.int j a,.int k b=>(j==k)&&(a==b)
  |.str a,.str b=>a==b
  |.agg a,.agg b=>sN (rN n) a b
  |.slice s a t,.slice s' b t'=>(s==s')&&(R5 t t'&&sN (rN n) a b)
  |.ptr i o,.ptr i' o'=>(i==i')&&(o==o')
  |.fV,.fV=>true
  |.func f a,.func g b=>(f==g)&&sN (rN n) a b
  |.jH f a,.jH g b=>(f==g)&&sN (rN n) a b
  |.iB,.iB=>true
  |.typed t a,.typed u b=>(t==u)&&sN (rN n) a b
  |.cV i o m s,.cV i' o' m' s'=>(i==i')&&((o==o')&&((m==m')&&(s==s')))
  |.aU i v o m s,.aU i' v' o' m' s'=>(i==i')&&((v==v')&&((o==o')&&((m==m')&&(s==s'))))
  |.dH i v o,.dH i' v' o'=>(i==i')&&((v==v')&&(o==o'))
  |.eO i,.eO i'=>i==i'
  |.iface t a,.iface u b=>(t==u)&&rN n a b
  |.aP a,.aP b=>sN (rN n) a b
  |.fF .nilIface,.fF .nilIface=>true
  |.fF (.map none),.fF (.map none)=>true
  |_,_=>false
theorem IQ:∀(n:Nat) (p q:PD),rN n p q=true->p=q
 |0,_,_,h=>by simp[rN]at h
 |n+1,p,q,h=>by
  have hl:∀a b:List PD,sN (rN n) a b=true->a=b:=R4 (IQ n);unfold rN at h;split at h
  all_goals first
   |rfl
   |(cases h;done)
   |((try simp only[yAr,yCd]at h)
     first
      |(rw[h])
      |(obtain⟨rfl,rfl⟩:=h;rfl)
      |(rw[hl _ _ h])
      |(obtain⟨rfl,h2,h3⟩:=h;rw[hl _ _ h3,aH6 _ _ h2])
      |(obtain⟨rfl,h2⟩:=h;rw[hl _ _ h2])
      |(obtain⟨rfl,rfl,rfl,rfl⟩:=h;rfl)
      |(obtain⟨rfl,rfl,rfl,rfl,rfl⟩:=h;rfl)
      |(obtain⟨rfl,rfl,rfl⟩:=h;rfl)
      |(obtain⟨rfl,h2⟩:=h;rw[IQ n _ _ h2]))
structure aSS where
 a:Ey
 s:Ex
 p:PD
 s':Ex
theorem aF.aH7{P:Program}{E:aE}(hE:aF P E)(hP:P.follows .mixedOrders=true){f:FuncId}{N:Nat}(h:(match MW P E N 0 (.inl f) [] []with|some (.bool true,_)=>true|_=>false)=true) :
  aF P (E.add f (entry (uV Em.bool (some true)))):=by
 rw[aAN]at h;split at h
 .rename_i σ1 hr;exact hE.aFS hP hr
 .cases h
def qR:List (List PD×PD)->List PD->Option PD
 | [],_=>none
 |r::rs,args=>if sN (rN 40) (args.map PD.strip) r.1=true then some r.2 else qR rs args
theorem R3:∀ {rs:List (List PD×PD)} {args:Ey} {p:PD},qR rs args=some p->∃r∈rs,args.map PD.strip=r.1/\p=r.2
 | [],_,_,h=>yw
 |r::rs,args,p,h=>by
  unfold qR at h;split at h
  .rename_i hc;simp only[yAb]at h;exact⟨r,yg,R4 (IQ 40) _ _ hc,h.symm⟩
  .obtain⟨r',hr,h'⟩:=R3 h;exact⟨r',by simp[hr],h'⟩
def gD(P:Program)(E:aE)(N:Nat)(f:FuncId)(r:Ey×PD):Bool:=
 PD.eJ r.1&&(match MW P E N 0 (.inl f) r.1 []with
  |some (p1,σ1)=>(aZ σ1 20 p1).bI&&rN 40 (aZ σ1 20 p1).strip r.2
  |none=>false)
theorem aF.MY{P:Program}{E:aE}(hE:aF P E)(hP:P.follows .mixedOrders=true){f:FuncId}{N:Nat}(rs:List (List PD×PD))(h:(rs.all (gD P E N f))=true) :
  aF P (E.add f (λ_ args σ=>match qR rs args with|some p=>some (p,σ)|none=>none)):=by
 refine hE.aAO hP λargs p hg=>?_
 obtain⟨r,hr,ha,rfl⟩:=R3 hg;have hx:=yAn.1 h r hr;simp only[gD,yAr]at hx;obtain⟨h1,h2⟩:=hx;split at h2
 .rename_i p1 σ1 hrun;simp only[yAr]at h2;rw[aAN]at hrun;exact⟨N,20,p1,σ1,by rw[ha];exact hrun,IQ 40 _ _ h2.2,h2.1,by rw[ha];exact h1⟩
 .cases h2
section
theorem aI.unique{P:Program}{E:aE}{f:FuncId}{args:Ey}{p q:PD}(h:aI P E f args p)(k:aI P E f args q):p=q:=by
 obtain⟨p1,σ1,⟨N,hN⟩,rfl⟩:=h;obtain⟨q1,τ1,⟨M,hM⟩,rfl⟩:=k;have h1:=hN (max N M) (Nat.le_max_left _ _);have h2:=hM (max N M) (Nat.le_max_right _ _);rw[h1]at h2;simp only[yAb,yAc]at h2;rw[h2.1]
open Classical in
def FK(P:Program)(E:aE)(f:FuncId):List PD->Option PD:=λargs=>
 if h:∃p,(PD.eJ (args.map PD.strip)=true/\p.bI=true)/\aI P E f (args.map PD.strip) p then some (Classical.choose h)else none
theorem aH2{P:Program}{E:aE}{f:FuncId}{args:Ey}{p:PD}(h:aI P E f (args.map PD.strip) p)(hi:PD.eJ (args.map PD.strip)=true)(hp:p.bI=true):FK P E f args=some p:=by
 unfold FK;have hx:∃p,(PD.eJ (args.map PD.strip)=true/\p.bI=true)/\aI P E f (args.map PD.strip) p:=⟨p,⟨hi,hp⟩,h⟩;exact tj
theorem aH3{P:Program}{E:aE}{f:FuncId}{args:Ey}{p:PD}(h:aI P E f (args.map PD.strip) p)(hi:PD.eJ (args.map PD.strip)=true)(hp:p.bI=true)(fl:Nat)(σ:List aB):entry (FK P E f) fl args σ=some (p,σ):=by
 unfold entry;rw[aH2 h hi hp]
theorem aF.aH4{P:Program}{E:aE}(hE:aF P E)(hP:P.follows .mixedOrders=true)(f:FuncId):aF P (E.add f (entry (FK P E f))):=by
 refine hE.x7 hP λargs p hg=>?_
 unfold FK at hg;split at hg
 .rename_i hx;simp only[yAb]at hg;obtain⟨h1,h2⟩:=Classical.choose_spec hx;rw[hg]at h1 h2;obtain⟨p1,σ1,h3,h4⟩:=h2;exact⟨p1,σ1,h3,h4,h1.1,h1.2⟩
 .cases hg
theorem aF.aH5{P:Program}{E:aE}(hE:aF P E)(hP:P.follows .mixedOrders=true){f:FuncId}(rs:List (List PD×PD))(h:∀r∈rs,aI P E f r.1 r.2/\PD.eJ r.1=true/\r.2.bI=true) :
  aF P (E.add f (λ_ args σ=>match qR rs args with|some p=>some (p,σ)|none=>none)):=by
 refine hE.x7 hP λargs p hg=>?_
 obtain⟨r,hr,ha,rfl⟩:=R3 hg;obtain⟨⟨p1,σ1,e1,e2⟩,h2,h3⟩:=h r hr;exact⟨p1,σ1,by rw[ha];exact e1,e2,by rw[ha];exact h2,h3⟩
end
theorem aF.pick{P:Program}{E E0:aE}(hE:aF P E)(h0:aF P E0){f:FuncId}{g}(h:E f=some g):aF P (E0.add f g):=by
 intro F fl f' g' args c vs p σ' hF hg hgo hs hX hv;unfold aE.add at hg;split at hg
 .rename_i e;subst e;simp only[yAb]at hg;subst hg;exact hE hF h hgo hs hX hv
 .exact h0 hF hg hgo hs hX hv
section
def Cx.held(c:Cx)(a:Addr):Prop:=∃id b,c.D id/\aY (c.ρ id)=some b/\a.block=b
def Cx.BS(c:Cx):Cx:={ w:=c.w,ρ:=λ_=>undef,σ:=[],D:=λ_=>False,X:=λa=>c.av a\/c.held a }
theorem WV{c:Cx}(a:Addr):c.BS.av a↔(c.av a\/c.held a):=⟨λh=>h.1,λh=>⟨h,λ_ _ hd=>hd.elim⟩⟩
theorem Sr.BS{c:Cx}(hs:Sr c):Sr c.BS where
 box:=λ_ _ h=>h.elim
 own:=λ_ _ _ _ h=>h.elim
 row:=λ_ _ _ _ _ h=>h.elim
 map:=λ_ _ h=>h.elim
 mark:=λ_ h=>h.elim
 loop:=λ_ _ _ _ _ _ h=>h.elim
 inj:=λ_ _ _ h=>h.elim
 lt:=λ_ _ h=>h.elim
 bA:=λ_ h=>h.elim
 fresh:=λ_ h=>.inl (ZA hs h)
 jA:=⟨λg ds e=>(hs.jA.1 g ds e).free (λa v h1 h2=>⟨(WV a).2 (.inl h1),h2⟩) (by simpa [PD.bI]using ZB e),λg hh=>⟨(hs.jA.2 g hh).1,λ_ h=>h.elim⟩⟩
theorem aOf{c:Cx}(hs:Sr c){vs:Fa}{ps:Ey}(k:Nat)(hv:aS c vs ps)(hf:PD.eJ (ps.map (aZ c.σ k))=true):aS c.BS vs (ps.map (aZ c.σ k)):=by
 refine⟨by rw[yAe];exact hv.1,λi v q h1 h2=>?_⟩;rw[yAo]at h2;cases h0:ps[i]? with
 |none=>rw[h0]at h2;cases h2
 |some p=>
  rw[h0]at h2;simp only[yAC,yAb]at h2;subst h2;exact aA6 (c2:=c.BS) hs rfl (λa h=>(WV a).2 (.inl h)) (λid b hd hb j=>(WV _).2 (.inr ⟨id,b,hd,hb,rfl⟩)) k v p (hv.2 i v p h1 h0) (C9 hf (yAw.2 ⟨p,yAE h0,rfl⟩))
def pL(g:List PD->Option PD):Nat->List PD->List aB->Option (PD×List aB):=λ_ args σ=>
 if PD.eJ (args.map (aZ σ 20))=true then(match g (args.map (aZ σ 20))with|some p=>some (p,σ)|none=>none)else none
theorem aF.aOg{P:Program}{E:aE}(hE:aF P E)(hP:P.follows .mixedOrders=true){f:FuncId}{g:List PD->Option PD}
  (h:∀args p,g args=some p->aI P E f (args.map PD.strip) p/\p.flat=true):aF P (E.add f (pL g)):=by
 intro F fl f' g' args c vs p σ' hF hg hgo hs hX hv;unfold aE.add at hg;split at hg
 .rename_i e;subst e;simp only[yAb]at hg;subst hg;unfold pL at hgo;split at hgo
  .rename_i hid;split at hgo
   .rename_i q hga;simp only[yAb,yAc]at hgo;obtain⟨rfl,rfl⟩:=hgo;obtain⟨⟨p1,σ1,⟨N,hN⟩,e1⟩,e3⟩:=h _ q hga;have gR:aS c.BS vs ((args.map (aZ c.σ 20)).map PD.strip):=(aOf hs 20 hv hid).strip;have:=(AI hE hP hF N).fn (c:=c.BS) (hN N (yAk _)) hs.BS (λ_ _ h=>h.elim) gR;refine⟨this.1,λm=>yCE (this.2 m) λe w' he=>?_⟩;cases e with
    |returned v=>
     obtain⟨c1,rfl,rfl,hs1,nx,hvv,_⟩:=he;have hgr:c.w.grownBy c1.w none:=⟨nx.os,nx.tape,nx.output,nx.size,λk hk _=>nx.frame k hk (λ_ h=>h.elim)⟩;refine⟨c.at c1.w,rfl,rfl,hs.grow hgr,Nx.grow hs hgr,?_,λ_ h=>.inl h⟩;have hp:=hvv.strip;rw[e1]at hp;exact hp.flat e3
    |panicked ch=>exact he.elim
    |outgrown=>exact he.elim
   .cases hgo
  .cases hgo
 .exact ew
open Classical in
def oY(P:Program)(E:aE)(f:FuncId):List PD->Option PD:=λargs=>
 if h:∃p,p.flat=true/\aI P E f (args.map PD.strip) p then some (Classical.choose h)else none
theorem aLp{P:Program}{E:aE}{f:FuncId}{args:Ey}{p:PD}(h:aI P E f (args.map PD.strip) p)(hp:p.flat=true):oY P E f args=some p:=by
 unfold oY;have hx:∃p,p.flat=true/\aI P E f (args.map PD.strip) p:=⟨p,hp,h⟩;exact tj
theorem aF.aIR{P:Program}{E:aE}(hE:aF P E)(hP:P.follows .mixedOrders=true)(f:FuncId):aF P (E.add f (pL (oY P E f))):=by
 refine hE.aOg hP λargs p hg=>?_
 unfold oY at hg;split at hg
 .rename_i hx;simp only[yAb]at hg;obtain⟨h1,h2⟩:=Classical.choose_spec hx;rw[hg]at h1 h2;exact⟨h2,h1⟩
 .cases hg
end
section
theorem iI.unique{P:Program}{E:aE}{fl:Nat}{f:FuncId ⊕ Nat}{args:Ey}{σ:Ex}{r q:PD×Ex}(h:iI P E fl f args σ r.1 r.2)(k:iI P E fl f args σ q.1 q.2):r=q:=by
 obtain⟨N,hN⟩:=h;obtain⟨M,hM⟩:=k;have h1:=hN (max N M) (Nat.le_max_left _ _);rw[hM (max N M) (Nat.le_max_right _ _)]at h1;simp only[yAb,yAc]at h1;exact yCF h1.1.symm h1.2.symm
open Classical in
def BR(P:Program)(E:aE)(f:FuncId):Nat->List PD->List aB->Option (PD×List aB):=λfl args σ=>
 if h:∃r:PD×List aB,iI P E fl (.inl f) args σ r.1 r.2/\σ≠[]then some (Classical.choose h)else none
theorem aNU{P:Program}{E:aE}{f:FuncId}{fl:Nat}{args:Ey}{σ σ':Ex}{p:PD}(h:iI P E fl (.inl f) args σ p σ')(dK:σ≠[]):BR P E f fl args σ=some (p,σ'):=by
 unfold BR;have hx:∃r:PD×List aB,iI P E fl (.inl f) args σ r.1 r.2/\σ≠[]:=⟨(p,σ'),h,dK⟩;rw[dif_pos hx];exact yAL some ((Classical.choose_spec hx).1.unique (q:=(p,σ')) h)
theorem aF.aNV{P:Program}{E:aE}(hE:aF P E)(hP:P.follows .mixedOrders=true)(f:FuncId):aF P (E.add f (BR P E f)):=
 hE.add hP λfl args σ p σ' h=>by
  unfold BR at h;split at h
  .rename_i hx;simp only[yAb]at h;have h1:=(Classical.choose_spec hx).1;rw[h]at h1;exact h1
  .cases h
theorem aL.es{P:Program}{E:aE}{f:FuncId}{fl:Nat}{args:Ey}{σ:Ex}{R:PD->List aB->Prop}(h:aL P E fl (.inl f) args σ R)(dK:σ≠[]):∃p σ',BR P E f fl args σ=some (p,σ')/\R p σ':=by
 obtain⟨p,σ',h1,h2⟩:=h.ex;exact⟨p,σ',aNU h1 dK,h2⟩
theorem VR.resize{c:Cx}{v:Value}{k z:Nat}(h:VR c v (.slice k [] .full)):VR c v (.slice z [] .full):=by
 obtain⟨A,cap,fl,rfl,a1,a2,a3,a4,a5,a6,a7,a8⟩:=h.nS;have e:fl=[]:=yAf (by simpa using a4);subst e;exact .slice A _ cap z [] .full [] rfl a1 a2 (λx hx=>by simp at hx) yg (λv hv=>by simp at hv) (λj v h=>Am) (λj v d h=>Am) a8
theorem aF.F8{P:Program}{E:aE}(hE:aF P E)(hP:P.follows .mixedOrders=true){f:FuncId}{g:Er}
  (h:∀fl args σ p σ',g fl args σ=some (p,σ')->∀(c:Cx) (vs:List Value),c.σ=σ->aS c vs args->∃args1 p1,aS c vs args1/\iI P E fl (.inl f) args1 σ p1 σ'/\∀c' v,VR c' v p1->VR c' v p):aF P (E.add f g):=by
 intro F fl f' g' args c vs p σ' hF hg hgo hs hX hv;unfold aE.add at hg;split at hg
 .rename_i e;subst e;simp only[yAb]at hg;subst hg;obtain⟨args1,p1,qQ,⟨N,hN⟩,hp⟩:=h fl args c.σ p σ' hgo c vs rfl hv;have:=(AI hE hP hF N).fn (hN N (yAk _)) hs hX qQ;refine⟨this.1,λm=>yCE (this.2 m) λe w' he=>?_⟩;cases e with
  |returned v=>
   obtain⟨c1,e1,e2,hs1,nx,hvv,hfin⟩:=he;exact⟨c1,e1,e2,hs1,nx,hp _ _ hvv,hfin⟩
  |panicked ch=>exact he.elim
  |outgrown=>exact he.elim
 .exact ew
end
section
open Go
def GI(ops:Array Oper):Bool:=r9 ops.toList [] λms=>
 (List.range ops.size).all λk=>!dZ eW ops.toList k||(List.range ops.size).all λi=>!dZ dM ops.toList i||!loose ms i k
def KF(f:Nat)(ops:Array Oper):Bool:=r9 ops.toList [] λms=>
 (List.range ops.size).any λk=>WD (WE f) ops.toList k&&!jC ops.toList ms k&&(List.range k).all λj=>!dZ cU ops.toList j&&!dZ eW ops.toList j
section
variable{P:Program}{E:aE}{fl:Nat}{ops:Fc}
theorem WG{n f:Nat}{g:Er}(hE:E f=some g)(hg:∀fl args σ,0<fl->g fl args σ=none){ms:List Nat}(hsh:∀o∈ops.toList,(dW o.op||dM o.op||cE o.op||kY o.op||dN o.op)=true) :
  ∀(d i k:Nat) (l:List Oper) (fr:List PD) (σ:List aB) (o:Oper),ops.toList.drop i=l->σ≠[]->l[d]?=some o->WE f o=true->jC ops.toList ms (i+d)=false->(∀j o',j<d->l[j]?=some o'->cU o'.op=false/\eW o'.op=false) ->
   eL P (dG P E n) fl ops ms i k l fr σ=none
 |0,i,k,l,fr,σ,o,hl,dK,ho,hc,hn,_=>by
  cases l with
  |nil=>simp at ho
  |cons o' l=>
   simp only[yBC,yAb]at ho;subst ho;rw[yBt]at hn;simp only[WE,yAr]at hc;obtain⟨hgd,hc⟩:=hc;obtain⟨dst,op,ty,pos,edges,guard⟩:=o';simp only at hc hgd;split at hc
   .rename_i g' args ts hop;simp only[yBY]at hc;subst hc;have hgn:guard=none:=by cases guard<;>simp_all
    subst hgn;have hp:bX P (dG P E n) (max fl σ.length) fr σ (.call { callee:=.value (.func g'),args:=args,argTypes:=ts })=none:=by
     have hpos:0<max fl σ.length:=by
      have:0<σ.length:=yCt.2 dK;omega
     unfold bX;cases ha:jT fr args.toList with
     |none=>
      have:fJ fr (.call { callee:=.value (.func g'),args:=args,argTypes:=ts })=none:=by simp[fJ,aX,ha]
      rw[this];simp[pop,dL,cJ]
     |some ps=>
      have:fJ fr (.call { callee:=.value (.func g'),args:=args,argTypes:=ts })=some (.inl g',ps++[]):=by simp[fJ,aX,ha]
      rw[this];simp only[dG,qH,hE,hg _ _ _ hpos]
    simp only[eL,Region.wanted,yAK,hn];unfold fL;simp only[dW,cE,cU,yAx,yAN,yCn,yCo,yAK,hp]
   .cases hc
 |d+1,i,k,l,fr,σ,o,hl,dK,ho,hc,hn,hm=>by
  cases l with
  |nil=>simp at ho
  |cons o' l=>
   have hmem:o'∈ops.toList:=by
    have:o'∈ops.toList.drop i:=by rw[hl];simp
    exact yBg this
   have hs1:=hsh o' hmem;obtain⟨hm0,hs2⟩:=hm 0 o' ye yg;have hl':ops.toList.drop (i+1)=l:=by rw[<-yBI,hl];rfl
   have hrec:=λk fr=>WG (n:=n) hE hg hsh d (i+1) k l fr σ o hl' dK Bd hc (by rw[show i+1+d=i+(d+1) by omega];exact hn) (λj o'' hj h=>hm (j+1) o'' ye zx)
   simp only[eL];split
   .split
    .rename_i p σ1 hp;obtain rfl:=Z4 hs1 (by unfold dN;rw[hs2,hm0];rfl) hp;rw[hrec]
    .rfl
   .rw[hrec]
theorem aNX{n f:Nat}{g:Er}(hE:E f=some g)(hg:∀fl args σ,0<fl->g fl args σ=none){fr:Ey}{σ:Ex}(dK:σ≠[]){x:Ey×Ex}(ρ:List (Nat×Nat))(B:List Nat){L:List (Option Nat)}(hs:(wY ops&&GJ ops.toList&&GI ops&&KF f ops)=true)
  (hρ:(dQ.of ρ).ok fr) (hL:GK ops.toList (dQ.of ρ)=L) (hB:zK B L) (h:dE P (xN E B) fl ops ops.toList fr σ=some x):lB P (dG P E n) fl ops fr σ=some x:=by
 simp only[yAr,wY]at hs;obtain⟨⟨⟨h1,h2⟩,h3⟩,h4⟩:=hs;rw[oE]at h1;have hr:=AM h1;obtain⟨tr,e1,e2⟩:=WH (n:=n) ops.toList 0 σ.length fr σ x (λo ho=>by
  obtain⟨i,hi⟩:=yDd ho;exact hr.shape i o Dn) h2 h
 have hft:=OS _ _ _ _ _ _ _ _ _ e1 hρ;unfold lB;cases hd:mU P (dG P E n) fl ops fr σ with
 |some y=>
  exfalso
  unfold mU at hd;simp only[h1,yAK,WI h2,yAl]at hd;rw[KF,oE]at h4;simp only[yCj,yAU,yAr,yBq,yAn]at h4;obtain⟨k,hk,⟨a1,a2⟩,a3⟩:=h4;have hno:eL P (dG P E n) fl ops (bW ops.toList []) 0 σ.length ops.toList fr σ=none:=by
   have hkl:k<ops.toList.length:=Dy;refine WG hE hg (λo ho=>?_) k 0 _ _ _ _ ops.toList[k] yg dK (yAh hkl) ?_ (by simpa using a2) ?_
   .exact uc
   .unfold WD at a1;rw[yAh hkl]at a1;exact a1
   .intro j o' hj ho';obtain⟨this,that⟩:=a3 j hj;exact sy
  rw[hno]at hd;cases hd
 |none=>
  simp only[h1,yAK,WI h2,yAl,e1];exact ak
theorem Wp.aCW{rd:Option Nat}{ms:List Nat}{Q:PO->Prop}{id f:Nat}{g:Er}{fr:Ey}{σ:Ex}(hE:E f=some g)(hg:∀fl args σ,0<fl->g fl args σ=none)(dK:σ≠[])(ρ:List (Nat×Nat))(B:List Nat)(L:List (Option Nat))
  (hs:(wY ops&&GJ ops.toList&&GI ops&&KF f ops)=true) (hρ:dQ.at fr ρ) (hL:GK ops.toList (dQ.of ρ)=L) (hB:zK B L) (h:SQ P (xN E B) fl ops ops.toList fr σ (λfr' σ'=>Q ⟨.normal,fr',ms,σ'⟩)) :
  Wp P E rd (.region id ops true) fl fr ms σ Q:=by
 obtain⟨fr',σ',h1,h2⟩:=h.ex;exact⟨_,.L4 (N:=0) (λn _=>aNX hE hg dK ρ B hs (dQ.aAK ρ hρ) hL hB h1),h2⟩
def dQ.WK(fr:List PD):List (Nat×Nat)->Prop
 | []=>True
 |x::l=>(∃p,lk fr x.1=some p/\gJ p=some x.2)/\dQ.WK fr l
theorem dQ.aDN{fr:Ey}:∀(l:List (Nat×Nat)),dQ.WK fr l->(dQ.of l).ok fr
 | [],_=>λ_ _ _ h=>yw
 |x::l,⟨⟨p,h1,h3⟩,h2⟩=>λt id id' h h'=>by
  unfold dQ.of at h
  by_cases e:x.1=t
  .rw[yAJ e]at h;simp only[yAb]at h;rw[LN,e]at h1;rw[yAA,h1]at h';simp only[yDk,h3,yAb]at h';rw[<-h',h]
  .rw[yAI e]at h;exact dQ.aDN l h2 t id id' h h'
end
def gP(P:Program)(E:aE)(f:FuncId):Nat->List PD->List aB->Option (PD×List aB):=λfl args σ=>if fl=0 then BR P E f 0 args σ else none
theorem U4{P:Program}{E:aE}{f:FuncId}:∀fl args σ,0<fl->gP P E f fl args σ=none:=λfl args σ h=>by
 unfold gP;rw[yAI ye]
theorem aL.e0{P:Program}{E:aE}{f:FuncId}{args:Ey}{σ:Ex}{R:PD->List aB->Prop}(h:aL P E 0 (.inl f) args σ R)(dK:σ≠[]):∃p σ',gP P E f 0 args σ=some (p,σ')/\R p σ':=by
 obtain⟨p,σ',h1,h2⟩:=h.es dK;exact⟨p,σ',by unfold gP;rw[yAJ rfl];exact h1,h2⟩
theorem aF.w9{P:Program}{E:aE}(hE:aF P E)(hP:P.follows .mixedOrders=true)(f:FuncId):aF P (E.add f (gP P E f)):=by
 intro F fl f' g' args c vs p σ' hF hg hgo hs hX hv;unfold aE.add at hg;split at hg
 .rename_i e;subst e;simp only[yAb]at hg;subst hg;unfold gP at hgo;split at hgo
  .rename_i e;subst e;exact(hE.aNV hP f') hF (show E.add f' (BR P E f') f'=_ from yAJ rfl) hgo hs hX hv
  .cases hgo
 .exact ew
theorem aH.e0{P:Program}{E E0:aE}(hU:aH E){f:FuncId}:aH (E.add f (gP P E0 f)):=hU.other λargs p h=>by
 unfold gP BR at h;rw[yAJ rfl,dif_neg (λhx=>hx.choose_spec.2 rfl)]at h;cases h
end
section
open Classical in
def BF(E:aE):bY:=λfl tg args σ=>match eK E fl tg args σ with
 |some (p,σ')=>if eK E (max fl σ.length) tg args σ=some (p,σ')/\σ'=σ++σ'.drop σ.length then some (p,σ')else none
 |none=>none
theorem JK{E:aE}{fl:Nat}{f:FuncId}{args:Ey}{σ τ:Ex}{p:PD}{g}(hE:E f=some g)(h:∀fl,g fl args σ=some (p,σ++τ)):BF E fl (.inl f) args σ=some (p,σ++τ):=by
 have e:∀fl,eK E fl (.inl f) args σ=some (p,σ++τ):=λfl=>by simp only[eK,hE,h]
 unfold BF;simp only[e];rw[yAJ ⟨e _,yg⟩]
theorem aDM{E:aE}{fl:Nat}{tg:FuncId ⊕ Nat}{args:Ey}{σ:Ex}{x:PD×Ex}(h:BF E fl tg args σ=some x):eK E fl tg args σ=some x/\eK E (max fl σ.length) tg args σ=some x/\x.2=σ++x.2.drop σ.length:=by
 unfold BF at h;split at h
 .rename_i p σ' e;split at h
  .rename_i hc;simp only[yAb]at h;subst h;exact⟨e,hc.1,hc.2⟩
  .cases h
 .cases h
section
variable{P:Program}{E:aE}{fl:Nat}{fr:Ey}{σ:Ex}
theorem aNW{op:Op}{x:PD×Ex}(h:bX P (BF E) fl fr σ op=some x):bX P (eK E) fl fr σ op=some x:=by
 unfold bX at h ⊢;split at h
 .rename_i tg args hp;exact(aDM h).1
 .exact h
theorem OR{ops:Fc}:∀(l:List Oper) (i:Nat) (fr:List PD) (σ:List aB) (x:Ey×List aB),ops.toList.drop i=l->EG ops=true ->
  dE P (BF E) fl ops l fr σ=some x->lN P (eK E) fl ops (flags ops i l) fr σ=some x
 | [],_,_,_,_,_,_,h=>h
 |o::l,i,fr,σ,x,hd,hm,h=>by
  have ho:ops.toList[i]?=some o:=by
   exact vn
  have hd':ops.toList.drop (i+1)=l:=Dp;have hi:i<ops.size:=by
   have:=(yA.1 ho).1;exact bq
  have hown:HI o.op=false\/wK ops i=true:=by
   exact js
  simp only[dE]at h;simp only[flags,lN];split at h
  .rename_i hw;rw[yAJ hw];split at h
   .rename_i p σ1 hp;cases hf:(!cU o.op||wK ops i)with
    |true=>
     simp only[aNW hp];exact OR l (i+1) _ _ _ hd' hm h
    |false=>
     simp only[yDX,Bool.not_eq_false']at hf;obtain⟨jD,uY⟩:=hf;rw[uY]at hown;have hop:HI o.op=false:=by simpa using hown
     have key:bX P (eK E) (max fl σ.length) fr σ o.op=some (p,σ1)/\σ1=σ++σ1.drop σ.length:=by
      unfold bX at hp ⊢;split at hp
      .rename_i tg args hpc;obtain⟨_,k2,k3⟩:=aDM hp;exact⟨k2,k3⟩
      .rename_i hpc
       exfalso
       cases hq:o.op with
       |box t x=>rw[hq]at hop;cases hop
       |call c=>
        obtain⟨callee,args,ts⟩:=c;cases callee with
        |builtin b=>rw[hq]at hop jD;cases b<;>first|(cases hop;done)|(cases jD;done)
        |value f=>rw[hq]at hp;simp[pop,dL,cJ]at hp
        |invoke r m=>rw[hq]at jD;cases jD
       |_=>rw[hq]at jD;cases jD
     simp only[key.1,<-key.2];exact OR l (i+1) _ _ _ hd' hm h
   .cases h
  .rename_i hw;rw[yAI hw];exact OR l (i+1) _ _ _ hd' hm h
theorem Wp.U2{rd:Option Nat}{ms:List Nat}{Q:PO->Prop}{ops:Fc}{id:Nat}(hs:(tO ops&&EG ops)=true)(h:SQ P (BF E) fl ops ops.toList fr σ (λfr' σ'=>Q ⟨.normal,fr',ms,σ'⟩)):Wp P E rd (.region id ops true) fl fr ms σ Q:=by
 simp only[yAr,LG]at hs;obtain⟨fr',σ',h1,h2⟩:=h.ex;exact .draw hs.1 (OR ops.toList 0 fr σ _ rfl hs.2 h1) h2
end
end
section
open Go.RowKit
set_option linter.unusedSectionVars false
def Tok.sh(n:Nat):Tok->Tok
 |.own id=>.own (id+n)
 |t=>t
mutual
def PD.sh(n:Nat):PD->PD
 |.bool b=>.bool b
 |.int k z=>.int k z
 |.str s=>.str s
 |.agg cs=>.agg (PD.xM n cs)
 |.slice sz xs t=>.slice sz (PD.xM n xs) (t.sh n)
 |.ptr id off=>.ptr (id+n) off
 |.eB cs off=>.eB (PD.xM n cs) off
 |.fV=>.fV
 |.func f cap=>.func f (PD.xM n cap)
 |.jH f xs=>.jH f (PD.xM n xs)
 |.yield id=>.yield (id+n)
 |.iB=>.iB
 |.fF v=>.fF v
 |.typed t cs=>.typed t (PD.xM n cs)
 |.cV id off m sz=>.cV (id+n) off m sz
 |.aU id ver off m sz=>.aU (id+n) ver off m sz
 |.dH id ver off=>.dH (id+n) ver off
 |.eO id=>.eO (id+n)
 |.iface t p=>.iface t (PD.sh n p)
 |.aP vs=>.aP (PD.xM n vs)
def PD.xM(n:Nat):List PD->Ey
 | []=>[]
 |x::xs=>PD.sh n x::PD.xM n xs
end
def aB.sh(n:Nat):aB->aB
 |.none=>.none
 |.box p=>.box (p.sh n)
 |.own e s m=>.own e s m
 |.row e s v cs=>.row e s v (PD.xM n cs)
 |.map es=>.map (es.map λx=>(x.1.sh n,x.2.sh n))
 |.mark=>.mark
 |.loop st fr ps asg bd=>.loop st (PD.xM n fr) ps asg bd
structure Shv (n:Nat) (c1 c2:Cx):Prop where
 cell:∀a v,c1.av a->c1.w.cell? a=some v->c2.av a/\c2.w.cell? a=some v
 bA:∀id,c1.D id->c2.D (id+n)
 rho:∀id,c1.D id->c2.ρ (id+n)=c1.ρ id
 obj:∀id,c2.σ[id+n]?=(c1.σ[id]?).map (aB.sh n)
section
variable{c c1:Cx}
variable(hs:Sr c)(hs1:Sr c1)(nx:Nx 0 c.bare c1)
include hs nx
include hs1
end
end
theorem aH.tail{E:aE}(hU:aH E){f:FuncId}{g}(h:∀args p,g 0 args []=some (p,[])->∀fl σ,g fl args σ=some (p,σ)):aH (E.add f g):=by
 intro f' g' args p hg ha fl σ;unfold aE.add at hg;split at hg
 .simp only[yAb]at hg;subst hg;exact h args p ha fl σ
 .exact hU f' g' args p hg ha fl σ
def OQ(g:Nat->List PD->List aB->Option (PD×List aB)):Prop:=∀fl args σ p σ',g fl args σ=some (p,σ')->σ'≠[]
section
open Go Go.RowKit
theorem aBj{P:Program}{w:World}{nm:String}{d:DataW Unit}:∀ {laid:List (String×DataW Unit)} {ps:List MemPlace},DataW.LaidVars P w laid ps->(nm,d)∈laid ->
  ∃g t cs fuel p,P.globalNamed nm=some g/\(P.globals[g]?).map (·.type)=some t/\w.var? P nm=some cs/\DataW.trod (λ_=>()) P w 0 (λ_=>true) false fuel t cs.toList=some (d,p)
 | [],_,_,hm=>by cases hm
 |(n,d')::r,ps,h,hm=>by
  obtain⟨g,t,cs,fuel,p,q,h1,h2,h3,h4,h5,_⟩:=h;rcases yBD.1 hm with e|hm
  .simp only[yAc]at e;obtain⟨rfl,rfl⟩:=e;exact⟨g,t,cs,fuel,p,h1,h2,h3,h4⟩
  .exact aBj h5 hm
theorem P0{P:Program}{w:World}{laid:List (String×DataW Unit)}{ps:List MemPlace}{nm:String}{k:IntKind}{xs:List Int}{g n:Nat}{t e:TypeId}(h:DataW.LaidVars P w laid ps)
  (hm:(nm,(.agg (xs.map λx=>.lit (.int k x)):DataW Unit))∈laid)
  (hg:P.globalNamed nm=some g) (ht:(P.globals[g]?).map (·.type)=some t) (hu:P.underlying t=some (.array n e)) (he:P.underlying e=some (.int k)) (hc:P.cellsOf e=1) (hct:P.cellsOf t=n) :
  ∃T fz,w.heap[g]?=some (.cells ((xs.map (Value.int k)).toArray) T fz):=by
 obtain⟨g1,t1,AW,f1,p1,fN,L6,qQ,uA⟩:=aBj h hm;obtain rfl:=yBe (hg.symm.trans fN);obtain rfl:=yBe (ht.symm.trans L6);obtain⟨ys,m1,rfl,hx1,hlen,hn,hel⟩:=DataW.trod_array hu uA;simp only[yAc,DataW.agg.injEq]at hx1;have hxl:xs.length=n:=by
  have:=yAL List.length hx1.1;simp only[yAe]at this;omega
 have key:∀(j:Nat) (x:Int),xs[j]?=some x->AW[j]?=some (Value.int k x):=by
  intro j x hj;have hjl:j<n:=by rw[<-hxl];exact(yA.1 hj).1
  have hy:ys[j]?=some ys[j]:=yAh ye;have h1:=hel j hjl;rw[hy,hc,yDc]at h1;obtain⟨v,e1,e2,_⟩:=DataW.trod_int he h1;have h2:=yAL (λl=>l[j]?) hx1.1;simp only[yAo,hj,hy,yAC,yAb,e2,DataW.lit.injEq,Lit.int.injEq]at h2;have h3:=yAL (λl=>l[0]?) e1;simp only[yAv,yBl,yBt,Nat.zero_lt_one,yAK,yBC]at h3;rw[<-yCH,h3,h2.2]
 have hcs:AW=(xs.map (Value.int k)).toArray:=by
  apply yCg;apply yCp;intro j;rw[yAo];cases hx:xs[j]? with
  |some x=>rw[yCH,key j x hx];rfl
  |none=>
   have hj:xs.length<=j:=yEe.1 hx;rw[yBF (by rw[hlen,hct];omega)];rfl
 have hv:=qQ;unfold World.var? at hv;rw[hg,yCU]at hv;split at hv
 .rename_i cs T fz hh;simp only[yAb]at hv;exact⟨T,fz,by rw[hh,hv,hcs]⟩
 .cases hv
theorem P4{w:World}{g:Nat}{k:IntKind}{xs:List Int}{T:TypeId}{fz:Nat×Nat}(h:w.heap[g]?=some (.cells ((xs.map (Value.int k)).toArray) T fz)):VR (.start w) (.pointer (some ⟨g,0,none⟩)) (.eB (xs.map (PD.int k)) 0):=by
 have hadd:∀j,(⟨g,0,none⟩:Addr).add j=⟨g,j,none⟩:=λj=>zg
 have:=VR.eB (c:=.start w) ⟨g,0,none⟩ (xs.map (Value.int k)) (xs.map (PD.int k)) 0 yg (by simp[Value.oneCell']) (λj v hj=>by
  rw[hadd];refine⟨?_,YX _⟩;show w.cell? ⟨g,j,none⟩=some v
  unfold World.cell?;simp only[h];simpa using hj) (λj v d h1 h2=>by
  rw[yAo]at h1 h2;cases hx:xs[j]? with
  |none=>rw[hx]at h1;simp at h1
  |some x=>
   rw[hx]at h1 h2;simp only[yAC,yAb]at h1 h2;subst h1 h2;exact .int k x)
 rw[hadd]at this;exact this
theorem aFA{P:Program}{w:World}{g:Nat}{t:TypeId}{k:IntKind}{zero:Fb}(h:w.ShapedOpen P)(hg:g<P.globals.size)
  (h0:((begin P (λ_ _=>0) default).world.heap[g]?).bind Obj.row?=some (zero,t)) (hz:zero.size=1) (hb:P.buildable t=true) (hty:P.cellTypes P.depth t=some [t]) (hu:P.underlying t=some (.int k)) :
  ∃m,∃T fz,w.heap[g]?=some (.cells #[.int k m] T fz):=by
 obtain⟨cs,h1,h2,h3⟩:=h.1 g zero t hg h0;have h4:=h3 hb;obtain⟨ts,e1,_,h5⟩:=h4;obtain rfl:=yBe (hty.symm.trans e1);have hsz:cs.size=1:=ye;obtain⟨u,e2,h6⟩:=h5 0 cs[0] (yCv ye);simp only[yDK,Nat.zero_mod,yBC,yAb]at e2;subst e2;unfold Cell.ok at h6;rw[hu]at h6;have hv:∃m,cs[0]=.int k m:=by
  cases hc:cs[0]with
  |int k' m=>
   rw[hc]at h6;simp only at h6;exact⟨m,by rw[h6.1]⟩
  |_=>
   rw[hc]at h6;simp at h6
 obtain⟨m,hm⟩:=hv;refine⟨m,t,(0,0),?_⟩;rw[h1];have:cs=#[.int k m]:=by
  apply Array.ext
  .simpa using hsz
  .intro i hi1 hi2;have:i=0:=ye;subst this;simpa using hm
 rw[this]
end
section
open Go Go.RowKit
theorem aFs{H:Type}{enc:TypeId×Value->H}{a:Assume}{C:Checked}{os:Os}{f:FuncId}{fn:Func}{s:ChangeSpec}{conds:List PathCond}{apart fresh handsOn again:Bool}{X:World->Array Value->Prop}
  (hX:∀(w w':World) (args:Array Value),w.heap=w'.heap->X w args->X w' args)
  (own:ownKnob C.prog.godebug=none) (started:os.Started) (noInit:C.prog.inits.idxOf? f=none) (hfn:C.prog.funcs[f]?=some fn)
  (witness:∃(w:World) (tape:Tape) (i:Input),w.os=os/\(w.forCall tape i).Shaped C.prog/\i.vars=[]/\Input.okWide C.prog (w.forCall tape i) .any w.heap.size f i /\
   ((s.pre enc C.prog fn conds apart (w.forCall tape i).memory i.args/\X (w.forCall tape i).memory i.args)/\sizedMet enc C.prog fn (OpenSpec.ofChange s) apart (w.forCall tape i).memory i.args)/\a.holds C.prog (lone (Frame.enter C.prog f i.args .normal) [] (w.forCall tape i)))
  (contract:∀(W:World) (base:Nat) (args:Array Value) (ds gs:List (DataW H)) (before:List MemPlace),W.ShapedOpen C.prog ->
   (∀(j:Nat) t v,fn.params[j]?=some t->args[j]?=some v->Value.okWide C.prog W .any base t v) ->
   DataW.Whole enc C.prog fn.params.toList s.vars apart W args.toList ds gs before ->
   conds.all (PathCond.test C.prog ⟨fn.params.toList,ds,s.plain.varTypes C.prog,gs⟩)=true ->
   (DataW.weightsEach C.prog (fn.params.toList++s.plain.varTypes C.prog) (ds++gs)).all (·<=reachBytes)=true->X W args ->
   a.holds C.prog (lone (Frame.enter C.prog f args .normal) [] W) ->
   Calls C.prog f args W λe W'=>∃v,e=.returned v/\s.post enc C.prog fn apart fresh handsOn again W args v W') :
  ReturnsInHanded a C os f .any (λw args=>(s.pre enc C.prog fn conds apart w args/\X w args)/\sizedMet enc C.prog fn (OpenSpec.ofChange s) apart w args) (s.post enc C.prog fn apart fresh handsOn again):=by
 refine returnsInHanded_of_calls own started noInit witness ?_;intro w tape i _ hsh _ hok hpre hholds;obtain⟨_,_,_,fn',aIo,_,_,_,_,hval⟩:=hok;obtain rfl:fn'=fn:=yBe (aIo.symm.trans hfn);obtain⟨⟨⟨ds,gs,before,hw,hc⟩,hx⟩,hz⟩:=hpre;have hw':=DataW.Whole.of_heap (w':=w.forCall tape i) (by rfl) hw;refine(contract (w.forCall tape i) w.heap.size i.args ds gs before hsh hval hw' hc (hz.weights hw) (hX _ _ _ (by rfl) hx) hholds).mono λe W' ⟨v,he,hp⟩=>?_
 subst he;exact ChangeSpec.post_blind hp
end
section
open Go.RowKit
section
variable{H:Type}{enc:TypeId×Value->H}{P:Program}{w:World}{base:Nat}{sp:Nat->Bool}{held:Bool}
end
end
section
open Go
section
variable{P:Program}{call:bY}{fl:Nat}{ops:Fc}
end
section
variable{P:Program}{E:aE}{fl:Nat}{fr:Ey}{σ:Ex}
end
def JX:Op->Option Nat
 |.load _ (.tmp t)=>some t
 |.store _ (.tmp t) _=>some t
 |.convert _ _ (.tmp t)=>some t
 |_=>none
def GD(ops:List Oper)(i t:Nat):Bool:=(ops.drop i).all λo=>decide (o.dst≠some t)
def VH(ops:List Oper):List (Nat×Nat):=r9 ops [] λms=>
 (List.range ops.length).flatMap λk=>if dZ eW ops k then(List.range ops.length).filterMap λi=>if dZ dM ops i&&loose ms i k then some (i,k)else none else []
def aC5(ops:List Oper)(L:List (Nat×Nat))(x:Nat×Nat):Bool:=match ops[x.1]?,ops[x.2]? with
 |some o,some o'=>match JX o.op,JX o'.op with
  |some a,some b=>L.any (λy=>y.1==a&&y.2==b)&&GD ops x.1 a&&GD ops x.2 b
  |_,_=>false
 |_,_=>false
def aC6(ops:Array Oper)(L:List (Nat×Nat)):Bool:=(VH ops.toList).all (aC5 ops.toList L)
def JY(fr:List PD):List (Nat×Nat)->Prop
 | []=>True
 |x::l=>(∀a b,gJ (fr.getD x.1 (.aP []))=some a->gJ (fr.getD x.2 (.aP []))=some b->a≠b)/\JY fr l
theorem aC7{fr:Ey}:∀ {l:List (Nat×Nat)},JY fr l->∀y∈l,∀a b,gJ (fr.getD y.1 (.aP []))=some a->gJ (fr.getD y.2 (.aP []))=some b->a≠b
 | [],_,_,h=>yw
 |x::l,h,y,hm=>by
  rcases yBD.1 hm with rfl|hm
  .exact h.1
  .exact aC7 h.2 y hm
section
variable{P:Program}{call:bY}{fl:Nat}{ops:Fc}
theorem VI{fr:Ey}{dst:Option Nat}{p x:PD}{t:Nat}(h:dst≠some t):(aW fr dst p).getD t x=fr.getD t x:=by
 cases dst with
 |none=>rfl
 |some d=>
  have:d≠t:=λe=>h Cc
  simp only[aW,yAA,yAd this]
theorem VJ:∀(l:List Oper) (ms:List Nat) (i k:Nat) (fr:List PD) (σ:List aB) (tr:List TE) (fr':List PD) (σ':List aB) (t:Nat) (x:PD),
  eL P call fl ops ms i k l fr σ=some (tr,fr',σ')->(∀o∈l,o.dst≠some t)->fr'.getD t x=fr.getD t x
 | [],_,_,_,_,_,_,_,_,_,_,h,_=>by
   simp only[eL,yAb,yAc]at h;rw[h.2.1]
 |o::l,ms,i,k,fr,σ,tr,fr',σ',t,x,h,hn=>by
  simp only[eL]at h;split at h
  .split at h
   .exact gh
   .cases h
  .exact gh
theorem aMm{fr:Ey}{op:Op}{t id:Nat}(ha:JX op=some t)(h:j6 fr op=some id):gJ (fr.getD t (.aP []))=some id:=by
 unfold JX at ha;split at ha
 .exact ko
 .exact ko
 .exact ko
 .cases ha
theorem OE:∀(l:List Oper) (ms:List Nat) (i k:Nat) (fr:List PD) (σ:List aB) (tr:List TE) (fr':List PD) (σ':List aB) (j t id:Nat) (o:Oper),
  eL P call fl ops ms i k l fr σ=some (tr,fr',σ')->l[j]?=some o->JX o.op=some t->GD l j t=true->(tr[j]?).bind TE.iJ=some id->gJ (fr'.getD t (.aP []))=some id
 | [],_,_,_,_,_,_,_,_,_,_,_,_,_,h1,_,_,_=>by simp at h1
 |o::l,ms,i,k,fr,σ,tr,fr',σ',j,t,id,o',h,h1,ha,hu,hf=>by
  have hall:∀ {j:Nat} {l:List Oper},GD l j t=true->∀o∈l.drop j,o.dst≠some t:=λhx o ho=>by
   have:=yAn.1 hx o ho;exact bq
  have hx:=hall hu;simp only[eL]at h;split at h
  .split at h
   .split at h
    .rename_i hrec;simp only[yAb,yAc]at h;obtain⟨rfl,rfl,rfl⟩:=h;cases j with
     |zero=>
      simp only[yBC,yAb]at h1;subst h1;simp only[yBC,yCU]at hf;simp only[yCa]at hx;rw[VJ l ms _ _ _ _ _ _ _ t _ hrec (λo' ho'=>hx o' (by simp[ho'])),VI (hx o yg)];exact aMm ha hf
     |succ j=>
      exact me
    .cases h
   .cases h
  .split at h
   .rename_i hrec;simp only[yAb,yAc]at h;obtain⟨rfl,rfl,rfl⟩:=h;cases j with
    |zero=>simp at hf
    |succ j=>
     exact me
   .cases h
end
section
variable{P:Program}{E:aE}{fl:Nat}{fr:Ey}{σ:Ex}
theorem aMn(hU:aH E){n:Nat}{ops:Fc}{x:Ey×Ex}(L:List (Nat×Nat))(hs:(wY ops&&yF ops&&IN ops&&aC6 ops L)=true)
  (h:dE P (kX E) fl ops ops.toList fr σ=some x) (hp:JY x.1 L):mU P (dG P E n) fl ops fr σ=some x:=by
 simp only[yAr,wY]at hs;obtain⟨⟨⟨h1,h2⟩,h3⟩,h4⟩:=hs;rw[oE]at h1;have hr:=AM h1;obtain⟨hs,tr,e1,e2⟩:=IP (n:=n) hU (bW ops.toList []) (λi o ho=>hr.shape i o ho) h2 h3 ops.toList 0 fr σ x yg h;unfold mU;simp only[h1,yAK,e1,e2];have hfo:oP ops.toList (bW ops.toList []) tr=true:=by
  simp only[oP,yAn,yAU];intro k hk;cases hs:dZ eW ops.toList k with
  |false=>simp
  |true=>
   simp only[yBR,yCf,yAn,yAU];intro i hi;cases hli:dZ dM ops.toList i with
   |false=>simp
   |true=>
    cases hlo:loose (bW ops.toList []) i k with
    |false=>simp
    |true=>
     simp only[yBR,yCf];have hm:(i,k)∈VH ops.toList:=by
      rw[VH,oE];refine yDe.2 ⟨k,yAU.2 hk,?_⟩;rw[yAJ hs];refine yDJ.2 ⟨i,yAU.2 hi,?_⟩;rw[hli,hlo];rfl
     have hpo:=yAn.1 h4 _ hm;unfold aC5 at hpo;split at hpo
     .rename_i o o' ho ho';split at hpo
      .rename_i a b ha hb;simp only[yAr,yCj,yCd]at hpo;obtain⟨⟨⟨y,hy,rfl,rfl⟩,hu1⟩,hu2⟩:=hpo;split
       .rename_i a' b' ea eb;have f1:=OE _ _ _ _ _ _ _ _ _ i _ a' o e2 ho ha hu1 ea;have f2:=OE _ _ _ _ _ _ _ _ _ k _ b' o' e2 ho' hb hu2 eb;simpa using aC7 hp y hy a' b' f1 f2
       .rfl
      .cases hpo
     .cases hpo
 rw[yAJ hfo]
theorem Wp.aMo{rd:Option Nat}{ms:List Nat}{Q:PO->Prop}{ops:Fc}{id:Nat}{y:Code}(hU:aH E)(L:List (Nat×Nat))(hs:(wY ops&&yF ops&&IN ops&&aC6 ops L)=true)
  (h:SQ P (kX E) fl ops ops.toList fr σ (λfr' σ'=>JY fr' L/\Wp P E rd y fl fr' ms σ' Q)) :
  Wp P E rd (.seq (.region id ops true) y) fl fr ms σ Q:=by
 obtain⟨fr',σ',h1,h2,h3⟩:=h.ex;exact .seq ⟨_,.draw (N:=0) (λn _=>aMn hU L hs h1 h2),.normal h3⟩
end
end
section
open Go.RowKit Go.Lib
variable{P:Program}
theorem OV{t e ty:TypeId}{k:Nat}(hu:P.underlying t=some (.slice e))(hsz:∀w,(Go.sizeOf e).run P w=.ok k w)(w:World)(b off n dc:Nat)(B:Option Addr)(m sc q:Nat)(hq:Nat.min m n=q)(cells:List Value)
  (hlen:cells.length=q*k) (hload:∀(j:Nat) (v:Value),cells[j]?=some v->∃ad,B=some ad/\w.cell? (ad.add j)=some v) {cur:Fb} {T:TypeId} (hb:w.heap[b]?=some (.cells cur T (0,0))) (hle:off+cells.length<=cur.size) (h1:∀v∈cells,v.oneCell'=true) :
  (Builtin.copy_ #[t,t] ty #[.slice (some ⟨b,off,none⟩) n dc,.slice B m sc]).run P w=.ok (goInt q) (w.setRow b (cur.toList.take off++cells++cur.toList.drop (off+cells.length)).toArray):=by
 subst hq;have hst:=yCZ (P:=P) b off T cells 0 cur w hb ye h1;simp only[yBt]at hst;have hf:(Builtin.firstCells k (Nat.min m n) (.slice B m sc)).run P w=.ok cells.toArray w:=by
  cases B with
  |none=>
   have:cells=[]:=by
    cases cells with
    |nil=>rfl
    |cons x xs=>obtain⟨_,e',_⟩:=hload 0 x rfl;cases e'
   exact ou
  |some bd=>
   simp only[Builtin.firstCells];exact AV hlen λj v hj=>by
    obtain⟨ad,e',h9⟩:=hload j v hj;exact ji
 simp[Builtin.copy_,yAM hu,Builtin.lenOf,hsz,hf,goInt,hst]
theorem aN0(w:World)(tS tR e:TypeId)(ht:P.underlying tS=some (.slice e))(size:Nat)(hz:∀w,(Go.sizeOf e).run P w=.ok size w)
  (a b:Addr) (la ca lb cb:Nat) (hne:a.block≠b.block) {cA cB:Fb} {TA TB:TypeId} {fz:Nat×Nat} (ha:w.heap[a.block]?=some (.cells cA TA fz)) (ha0:cA.size≠0) (hb:w.heap[b.block]?=some (.cells cB TB (0,0))) :
  (Extern.SlicesOverlaps.overlaps #[tS,tS] #[tR] #[.slice (some a) la ca,.slice (some b) lb cb]).run P w=.ok (.bool false) w:=by
 have hnb:(a.block != b.block)=true:=by simpa using hne
 have aN1:(a.block==b.block)=false:=by simpa using hne
 have hsa:w.shape? a.block=some (TA,cA.size):=by unfold World.shape?;rw[ha]
 have hsb:w.shape? b.block=some (TB,cB.size):=by unfold World.shape?;rw[hb]
 have hfb:w.frozen? b=false:=by unfold World.frozen?;rw[hb];simp
 have hfe:w.frozen? { block:=b.block,off:=cB.size }=false:=by unfold World.frozen?;simp only[hb];simp
 obtain⟨kA,hkA⟩:∃kA,cA.size=kA+1:=⟨cA.size-1,ye⟩;rw[hkA]at hsa
 change Sem.run P (α:=Value) (do
  let some t:=(#[tS,tS]:Array TypeId)[0]? | stuck "slices.overlaps: no parameter types"
  let .slice elem <-underlying t|stuck "slices.overlaps: slice type expected"
  let size <-sizeOf elem
  match (some a:Option Addr),(some b:Option Addr)with
  |some a,some b=>
   if la=0\/lb=0\/size=0 then pure (Value.bool false)
   else if a.block != b.block&&(<-frozen a)&&(<-frozen b)then unsupported .addressObserved
   else do
    if a.block != b.block then do
     noView a;noView b
     if <-mayBeOne a b then return Value.bool ((<-choose (.extern "sameAddr.stringBytes" 2))==1)
    pure (Value.bool (a.block==b.block&&a.off<b.off+lb*size&&b.off<a.off+la*size))
  |_,_=>pure (Value.bool false)) w=_
 by_cases h0:la=0\/lb=0\/size=0
 .simp[yAM ht,hz,h0]
 .cases hA:w.frozen? a<;>cases hA2:w.frozen? { block:=a.block,off:=kA+1 } <;>
   simp[yAM ht,hz,h0,hnb,aN1,frozen,noView,viewAt,mayBeOne,stringish,shape,Sem.run,hsa,hsb,hfb,hfe,hA,hA2]
theorem KH{x:Int}(h0:0<=x)(h1:x<9223372036854775808):wrap64 x=x:=by unfold wrap64;omega
theorem aN2{n c:Nat}(hc:c<=200)(hn:n+1<=201):Builtin.nextslicecap (n+1) c<=1000:=by
 unfold Builtin.nextslicecap;split
 .omega
 .rw[yAJ ye];omega
theorem aN3{n i c G:Nat}(hi:i<n)(hnc:n<=c)(hroom:c<n+1)(hn:n<=200)(hge:n+1<=G) :
  ¬((i:Int)=(n:Int))/\IntKind.i64.wrap ((n:Int)+1)=(n:Int)+1/\IntKind.i64.wrap ((i:Int)+1)=(i:Int)+1/\wrap64 ((n:Int)+1)=(n:Int)+1/\wrap64 ((i:Int)+1)=(i:Int)+1 /\
  ((n:Int)+1-i)=((n+1-i:Nat):Int)/\wrap64 ((n:Int)+1-i)=(n:Int)+1-i/\(c:Int)<(n:Int)+1/\(i:Int)<=(n:Int)/\(i:Int)<=(c:Int)/\(0:Int)<=(i:Int)+1/\(i:Int)+1<=(n:Int)+1/\(i:Int)<=(n:Int)+1 /\
  ¬(G=i+1)/\¬(G=i)/\¬(c=i)/\((i:Int)+1).toNat=i+1/\i+(n+1-i)=n+1:=by
 have h1:((n:Int)+1-i)=((n+1-i:Nat):Int):=ye;refine⟨ye,ym,ym,KH ye ye,KH ye ye,h1,?_,ye,ye,ye,ye,ye,ye,ye,ye,ye,ye,ye⟩;exact KH ye ye
theorem aN4{n i c KI:Nat}(hi:i<n)(hnc:n<=c)(hroom:c<n+1)(hn:n<=200)(hib:KI<=1000):0<n+1-i/\c<i+(n+1-i)/\((i+(n+1-i):Nat):Int)<=9223372036854775807/\(n+1-i)*KI<=281474976710656/\Builtin.nextslicecap (i+(n+1-i)) c*KI<=281474976710656:=by
 have e:i+(n+1-i)=n+1:=ye;have h1:(n+1-i)*KI<=1000*1000:=yDg ye hib;have h2:Builtin.nextslicecap (n+1) c*KI<=1000*1000:=yDg (aN2 ye ye) hib;rw[e];exact⟨ye,ye,ye,ye,ye⟩
structure Kept (p:Prop):Prop where
 out:p
def aDQ(P:Program)(e:TypeId)(k:Nat):Bool:=match P.info? e with
 |some i=>match i.zero with
  |some z=>decide (i.size=k)&&decide (i.bytes<=1000)&&decide (z.cells.size=k)&&z.cells.toList.all Value.oneCell'
  |none=>false
 |none=>false
theorem aDR{e:TypeId}{k:Nat}(h:aDQ P e k=true):∃i z,P.info? e=some i/\i.zero=some z/\i.size=k/\i.bytes<=1000/\z.cells.size=k/\∀v∈z.cells.toList,v.oneCell'=true:=by
 unfold aDQ at h;split at h
 .rename_i i hi;split at h
  .rename_i z hz;simp only[yAr,yBY]at h;exact⟨i,z,hi,hz,h.1.1.1,h.1.1.2,h.1.2,λv hv=>yAn.1 h.2 v hv⟩
  .cases h
 .cases h
theorem WO(w:World):w.drew.heap=w.heap:=rfl
def aN5(w:World)(b c e k n:Nat)(L:List Value):Ending->World->Prop:=λen w'=>∃b' C' cur',en=.returned (.slice (some ⟨b',0,none⟩) (n+1) C')/\(b'=b/\C'=c\/w.heap.size<=b')/\n+1<=C'/\C'<=maxLen /\
 (w'.os=w.os/\w'.tape=w.tape/\w'.output=w.output/\w.heap.size<=w'.heap.size)/\(∀j,j<w.heap.size->j≠b->w'.heap[j]?=w.heap[j]?)/\w'.heap[b']?=some (.cells cur' e (0,0))/\cur'.size=C'*k/\(∀v∈cur'.toList,v.oneCell'=true)/\∃rest,cur'.toList=L++rest
def WQ(P:Program)(f:FuncId)(e k:Nat):Prop:=∀(w:World) (b n c i vc:Nat) (a:Addr) (cur:Array Value) (vs:List Value) (cA:Array Value) (TA:TypeId) (fz:Nat×Nat),
 i<n->n<=c->n<=200->c<=maxLen->w.heap[b]?=some (.cells cur e (0,0))->cur.size=c*k->a.block≠b->w.heap[a.block]?=some (.cells cA TA fz)->cA.size≠0->vs.length=k ->
 (∀(j:Nat) (v:Value),vs[j]?=some v->w.cell? (a.add j)=some v)->(∀v∈cur.toList,v.oneCell'=true)->(∀v∈vs,v.oneCell'=true) ->
 Calls P f #[.slice (some ⟨b,0,none⟩) n c,.int .i64 i,.slice (some a) 1 vc] w (aN5 w b c e k n (cur.toList.take (i*k)++vs++(cur.toList.drop (i*k)).take ((n-i)*k)))
def WR(e k:Nat):Nat->List PD->List aB->Option (PD×List aB):=λfl args σ=>match args with
 | [.aU id ver 0 n sz,.int .i64 i,.slice sx [y] _]=>match σ[id]? with
   |some (.row e' size eX cs)=>if fl<=id/\eX=ver/\size=k/\sz=k/\e'=e/\cs.length=n*k/\0<=i/\i<n/\n<=200/\sx=k/\0<k then
     some (.aU id (ver+1) 0 (n+1) k,σ.set id (.row e k (ver+1) (cs.take (i.toNat*k)++y.cells++cs.drop (i.toNat*k))))else none
   |_=>none
 |_=>none
theorem aDP{c:Cx}{vs:Fa}{p q r:PD}(h:aS c vs [p,q,r]):∃v u x,vs=[v,u,x]/\VR c v p/\VR c u q/\VR c x r:=by
 match vs,h.1 with
 | [v,u,x],_=>exact⟨v,u,x,rfl,h.2 0 _ _ rfl rfl,h.2 1 _ _ rfl rfl,h.2 2 _ _ rfl rfl⟩
theorem WS(a:Addr)(j:Nat):(a.add j).block=a.block:=Ch
theorem aF.aN6{E:aE}(hE:aF P E){f:FuncId}{e k:Nat}(hf:∃fn,P.funcs[f]?=some fn/\fn.body.isSome=true)(H:WQ P f e k):aF P (E.add f (WR e k)):=by
 refine hE.KD hf λfl args c vs p σ' hg hs _ hv=>?_
 unfold WR at hg;split at hg
 rotate_left
 .cases hg
 rename_i id ver n sz i sx y tok;split at hg
 rotate_left
 .cases hg
 rename_i e' size eX cs hq;split at hg
 rotate_left
 .cases hg
 rename_i hc;obtain⟨hfl,rfl,rfl,rfl,rfl,hlen,wX,hin,hn2,rfl,hk⟩:=hc;simp only[yAb,yAc]at hg;obtain⟨rfl,rfl⟩:=hg;obtain⟨v1,v2,v3,rfl,h1,h2,h3⟩:=aDP hv;obtain⟨b,cap,rfl,hp,q1,q2⟩:=h1.AU;obtain⟨_,C,hr,hCo⟩:=(hp.2 _ _ _ cs hq).2 rfl;obtain⟨b',C',cur,e1,e2,e3,e4,e5,e6,e7,e8⟩:=hs.row id _ _ _ cs hp.1 hq;rw[hr]at e1;simp only[yBM,yAb,yBJ,yBn,yCJ]at e1;obtain⟨rfl,rfl⟩:=e1;have hcapC:cap=C:=yEd hk ye;subst hcapC;obtain rfl:=h2.int_eq;obtain⟨j,rfl⟩:=Int.eq_ofNat_of_zero_le wX;have hjn:j<n:=ye;obtain⟨A,capx,flx,rfl,a1,a2,a3,a4,a5,a6,a7,a8⟩:=h3.nS;simp only[yDK,Nat.one_mul]at a4;obtain⟨ad,rfl,hcell,hav⟩:=a6 0 (flx[0]' ye) (by simp[a4,hk]);have hne:ad.block≠b:=by
  have:=hav.2 id _ hp.1 hq b Ap
  rwa [WS]at this
 obtain⟨cA,TA,fz,hA,qU⟩:∃cA TA fz,c.w.heap[ad.block]?=some (.cells cA TA fz)/\cA.size≠0:=by
  unfold World.cell? at hcell;rw[WS]at hcell;split at hcell
  .rename_i cA TA fz hA;refine⟨cA,TA,fz,hA,λh0=>?_⟩;split at hcell
   .cases hcell
   .rw[Array.getElem?_eq_none ye]at hcell;cases hcell
  .cases hcell
 have hjk:j*sx<=cs.length:=by rw[hlen];exact yBK _ ye
 have hnj:(n-j)*sx=cs.length-j*sx:=by rw[hlen,Nat.sub_mul]
 have p1:aS c (cur.toList.take (j*sx)) (cs.take (j*sx)):=by
  have:=e7.take_drop 0 (j*sx);rw[yCa,yCa,yCi,yBS hjk]at this;exact this
 have p2:aS c ((cur.toList.drop (j*sx)).take ((n-j)*sx)) (cs.drop (j*sx)):=by
  have:=e7.take_drop (j*sx) ((n-j)*sx);rw[yDQ,yCi,<-hnj,Nat.min_self]at this
  rwa [yAz (l:=cs.drop (j*sx)) (by rw[yBd,hnj];exact yAk _)]at this
 have p3:aS c flx y.cells:=by
  have hy:[y].flatMap PD.cells=y.cells:=yg;rw[hy]at a7;exact⟨by rw[a4];exact(a3 y yg).symm,a7⟩
 have pall:aS c (cur.toList.take (j*sx)++flx++(cur.toList.drop (j*sx)).take ((n-j)*sx)) (cs.take (j*sx)++y.cells++cs.drop (j*sx)):=(p1.append p3).append p2;refine yBB (H c.w b n cap j capx ad cur flx cA TA fz hjn q1 hn2 q2 e2 e3 hne hA qU a4 (λm v hm=>?_) e8 a5) λen w' he=>?_
 .obtain⟨IA,e9,h9,_⟩:=a6 m v hm;cases e9;exact h9
 obtain⟨b2,C2,IB,rfl,hb2,g1,g2,g3,g4,g5,g6,g7,rest,g8⟩:=he;have hk1:∀m,m<c.w.heap.size->aY (c.ρ id)≠some m->w'.heap[m]?=c.w.heap[m]?:=λm hm h=>g4 m hm (λe=>h (by rw[hr,e];rfl))
 have hk2:aY (.slice (some ⟨b2,0,none⟩) 0 C2)=aY (c.ρ id)\/∀b0,aY (.slice (some ⟨b2,0,none⟩) 0 C2)=some b0->c.w.heap.size<=b0:=by
  rcases hb2 with⟨rfl,rfl⟩ | hb2
  .exact .inl (by rw[hr])
  .exact .inr λb0 h=>by simp only[aY,yAb]at h;omega
 have hL:(cs.take (j*sx)++y.cells++cs.drop (j*sx)).length=(cur.toList.take (j*sx)++flx++(cur.toList.drop (j*sx)).take ((n-j)*sx)).length:=pall.1.symm;have hall:∃b0 C0 lE,Value.slice (some ⟨b2,0,none⟩) 0 C2=.slice (some ⟨b0,0,none⟩) 0 C0/\w'.heap[b0]?=some (.cells lE e' (0,0))/\lE.size=C0*sx/\C0<=maxLen/\0<sx /\
   (cs.take (j*sx)++y.cells++cs.drop (j*sx)).length<=lE.size/\aS c (lE.toList.take (cs.take (j*sx)++y.cells++cs.drop (j*sx)).length) (cs.take (j*sx)++y.cells++cs.drop (j*sx))/\∀v∈lE.toList,v.oneCell'=true:=by
  refine⟨b2,C2,IB,rfl,g5,g6,g2,hk,?_,?_,g7⟩
  .rw[hL];have:=yAL List.length g8;exact og
  .rw[hL,g8,yCr];exact pall
 have hcar:((Int.ofNat j).toNat)=j:=rfl;refine⟨c.put w' id (.slice (some ⟨b2,0,none⟩) 0 C2) (.row e' sx (eX+1) (cs.take (j*sx)++y.cells++cs.drop (j*sx))),rfl,rfl,Sr.putRow hs hp.1 hq (yCs _) (λh=>ye) g3 hk1 hk2 hall,
  Nx.putRow hs hp.1 hq hfl (yCs _) (λh=>ye) g3 hk1 hk2,?_,λi hi=>.inl hi⟩
 refine .aU _ _ _ _ _ _ _ ⟨hp.1,λe0 CT v1 AW hq1=>?_⟩ g1 g2;exact iu
end
section
open Go
section
variable{P:Program}{call:bY}{fl:Nat}{ops:Fc}
end
section
variable{P:Program}{E:aE}{fl:Nat}{fr:Ey}{σ:Ex}
end
end
section
open Go.RowKit Go.Lib
variable{P:Program}
def aNY(w:World)(b c e k m:Nat)(L:List Value):Ending->World->Prop:=λen w'=>∃cur',en=.returned (.slice (some ⟨b,0,none⟩) m c) /\
 (w'.os=w.os/\w'.tape=w.tape/\w'.output=w.output/\w.heap.size<=w'.heap.size)/\(∀j,j≠b->w'.heap[j]?=w.heap[j]?)/\w'.heap[b]?=some (.cells cur' e (0,0))/\cur'.size=c*k/\(∀v∈cur'.toList,v.oneCell'=true)/\∃rest,cur'.toList=L++rest
def WM(P:Program)(f:FuncId)(e k:Nat):Prop:=∀(w:World) (b n c i:Nat) (cur:Array Value),
 i<n->n<=c->c<=maxLen->w.heap[b]?=some (.cells cur e (0,0))->cur.size=c*k->(∀v∈cur.toList,v.oneCell'=true) ->
 Calls P f #[.slice (some ⟨b,0,none⟩) n c,.int .i64 i,.int .i64 ((i:Int)+1)] w (aNY w b c e k (n-1) (cur.toList.take (i*k)++(cur.toList.drop ((i+1)*k)).take ((n-1-i)*k)))
def WN(e k:Nat):Nat->List PD->List aB->Option (PD×List aB):=λfl args σ=>match args with
 | [.aU id ver 0 n sz,.int .i64 i,.int .i64 j]=>match σ[id]? with
   |some (.row e' size eX cs)=>if fl<=id/\eX=ver/\size=k/\sz=k/\e'=e/\cs.length=n*k/\0<=i/\i<n/\j=i+1/\0<k then
     some (.aU id (ver+1) 0 (n-1) k,σ.set id (.row e k (ver+1) (cs.take (i.toNat*k)++cs.drop ((i.toNat+1)*k))))else none
   |_=>none
 |_=>none
theorem aF.aNZ{E:aE}(hE:aF P E){f:FuncId}{e k:Nat}(hf:∃fn,P.funcs[f]?=some fn/\fn.body.isSome=true)(H:WM P f e k):aF P (E.add f (WN e k)):=by
 refine hE.KD hf λfl args c vs p σ' hg hs _ hv=>?_
 unfold WN at hg;split at hg
 rotate_left
 .cases hg
 rename_i id ver n sz i j;split at hg
 rotate_left
 .cases hg
 rename_i e' size eX cs hq;split at hg
 rotate_left
 .cases hg
 rename_i hc;obtain⟨hfl,rfl,rfl,rfl,rfl,hlen,wX,hin,rfl,hk⟩:=hc;simp only[yAb,yAc]at hg;obtain⟨rfl,rfl⟩:=hg;obtain⟨v1,v2,v3,rfl,h1,h2,h3⟩:=aDP hv;obtain⟨b,cap,rfl,hp,q1,q2⟩:=h1.AU;obtain⟨_,C,hr,hCo⟩:=(hp.2 _ _ _ cs hq).2 rfl;obtain⟨b',C',cur,e1,e2,e3,e4,e5,e6,e7,e8⟩:=hs.row id _ _ _ cs hp.1 hq;rw[hr]at e1;simp only[yBM,yAb,yBJ,yBn,yCJ]at e1;obtain⟨rfl,rfl⟩:=e1;have hcapC:cap=C:=yEd hk ye;subst hcapC;obtain rfl:=h2.int_eq;obtain rfl:=h3.int_eq;obtain⟨j,rfl⟩:=Int.eq_ofNat_of_zero_le wX;have hjn:j<n:=ye;have hcar:((Int.ofNat j).toNat)=j:=rfl;have hj1:(j+1)*sz<=cs.length:=by rw[hlen];exact yBK _ ye
 have hjk:j*sz<=cs.length:=by rw[hlen];exact yBK _ ye
 have hnj:(n-1-j)*sz=cs.length-(j+1)*sz:=by rw[hlen,<-Nat.sub_mul];congr 1;omega
 have p1:aS c (cur.toList.take (j*sz)) (cs.take (j*sz)):=by
  have:=e7.take_drop 0 (j*sz);rw[yCa,yCa,yCi,yBS hjk]at this;exact this
 have p2:aS c ((cur.toList.drop ((j+1)*sz)).take ((n-1-j)*sz)) (cs.drop ((j+1)*sz)):=by
  have:=e7.take_drop ((j+1)*sz) ((n-1-j)*sz);rw[yDQ,yCi,<-hnj,Nat.min_self]at this
  rwa [yAz (l:=cs.drop ((j+1)*sz)) (by rw[yBd,hnj];exact yAk _)]at this
 have pall:=p1.append p2;refine yBB (H c.w b n cap j cur hjn q1 q2 e2 e3 e8) λen w' he=>?_
 obtain⟨IB,rfl,g3,g4,g5,g6,g7,rest,g8⟩:=he;have hk1:∀m,m<c.w.heap.size->aY (c.ρ id)≠some m->w'.heap[m]?=c.w.heap[m]?:=λm hm h=>g4 m (λe=>h (by rw[hr,e];rfl))
 have hL:(cs.take (j*sz)++cs.drop ((j+1)*sz)).length=(cur.toList.take (j*sz)++(cur.toList.drop ((j+1)*sz)).take ((n-1-j)*sz)).length:=pall.1.symm;have hall:∃b0 C0 lE,c.ρ id=.slice (some ⟨b0,0,none⟩) 0 C0/\w'.heap[b0]?=some (.cells lE e' (0,0))/\lE.size=C0*sz/\C0<=maxLen/\0<sz /\
   (cs.take (j*sz)++cs.drop ((j+1)*sz)).length<=lE.size/\aS c (lE.toList.take (cs.take (j*sz)++cs.drop ((j+1)*sz)).length) (cs.take (j*sz)++cs.drop ((j+1)*sz))/\∀v∈lE.toList,v.oneCell'=true:=by
  refine⟨b,cap,IB,hr,g5,g6,q2,hk,?_,?_,g7⟩
  .rw[hL];have:=yAL List.length g8;exact og
  .rw[hL,g8,yCr];exact pall
 refine⟨c.put w' id (c.ρ id) (.row e' sz (eX+1) (cs.take (j*sz)++cs.drop ((j+1)*sz))),rfl,rfl,Sr.putRow hs hp.1 hq (yCs _) (λ_=>rfl) g3 hk1 (.inl rfl) hall,
  Nx.putRow hs hp.1 hq hfl (yCs _) (λ_=>rfl) g3 hk1 (.inl rfl),?_,λi hi=>.inl hi⟩
 refine .aU _ _ _ _ _ _ _ ⟨hp.1,λe0 CT v1 AW hq1=>?_⟩ ye q2;exact gv
end
section
def isApp:Op->Bool
 |.call { callee:=.builtin .append,.. }=>true
 |_=>false
def aEX:Op->Bool
 |.call { callee:=.value _,.. }=>true
 |_=>false
def iM(op:Op)(σ σ':List aB):Prop:=σ.length<=σ'.length/\∀(id:Nat) (b:PD),σ[id]?=some (aB.box b)->∃b',σ'[id]?=some (aB.box b')/\(eW op=false->b'=b)
theorem iM.same(op:Op)(σ:List aB):iM op σ σ:=⟨yAk _,λ_ b h=>⟨b,h,λ_=>rfl⟩⟩
theorem iM.app(op:Op)(σ L:List aB):iM op σ (σ++L):=⟨yg,λid b h=>⟨b,by rw[yAg (yA.1 h).1];exact h,λ_=>rfl⟩⟩
theorem iM.set(op:Op){σ:Ex}{id:Nat}{o x:aB}(ho:σ[id]?=some o)(hb:∀b,o≠aB.box b):iM op σ (σ.set id x):=⟨yg,λi b h=>by
 by_cases e:id=i
 .subst e;rw[ho,yAb]at h;exact absurd h (hb b)
 .exact⟨b,by rw[yAd e];exact h,λ_=>rfl⟩⟩
theorem iM.aP7{op:Op}(hop:eW op=true){σ:Ex}{id:Nat}{q:PD}:iM op σ (σ.set id (.box q)):=⟨yg,λi b hb=>by
 by_cases e:id=i
 .subst e;exact⟨q,yAj (yA.1 hb).1,λh=>by rw[hop]at h;cases h⟩
 .exact⟨b,by rw[yAd e];exact hb,λ_=>rfl⟩⟩
theorem aP8{P:Program}{fl:Nat}{σ σ':Ex}{t:TypeId}{s x p:PD}(op:Op)(h:fA P fl σ t s x=some (p,σ')):iM op σ σ':=by
 unfold fA at h
 repeat' split at h
 all_goals first
  |(cases h;done)
  |(simp only[yAb,yAc]at h;obtain⟨_,rfl⟩:=h;first|exact iM.same _ _|exact iM.app _ _ _|exact iM.set _ ‹_=some (aB.own _ _ _)› (λb e=>zu))
theorem aEY{P:Program}{n fl:Nat}{σ σ':Ex}{t:TypeId}{s x p:PD}(op:Op)(h:cX P n fl σ t s x=some (p,σ')):iM op σ σ':=by
 unfold cX at h
 repeat' split at h
 all_goals first
  |(cases h;done)
  |(simp only[yAb,yAc]at h;obtain⟨_,rfl⟩:=h;first|exact iM.same _ _|exact iM.app _ _ _|exact iM.set _ ‹_=some (aB.row _ _ _ _)› (λb e=>zu))
theorem aP9{P:Program}{fl:Nat}{σ σ':Ex}{t:TypeId}{a p:PD}{op:Op}(hop:eW op=true)(h:pH P fl σ t a p=some σ'):iM op σ σ':=by
 unfold pH at h
 repeat' split at h
 all_goals first
  |(cases h;done)
  |skip
 .simp only[yAb]at h;subst h;exact iM.aP7 hop
 .simp only[yAb]at h;subst h;exact iM.set _ ‹_=some (aB.row _ _ _ _)› (λb e=>zu)
theorem aQa{P:Program}{n:Nat}{σ σ':Ex}{t:TypeId}{s p:PD}{m:Int}(op:Op)(h:ES P n σ t s m=some (p,σ')):iM op σ σ':=by
 unfold ES at h
 repeat' split at h
 all_goals first
  |(cases h;done)
  |(simp only[yAb,yAc]at h;obtain⟨_,rfl⟩:=h;exact iM.app _ _ _)
theorem aQb{P:Program}{σ σ':Ex}{t e:TypeId}{l k:Nat}{p:PD}(op:Op)(h:sA P σ t e l k=some (p,σ')):iM op σ σ':=by
 unfold sA at h
 repeat' split at h
 all_goals first
  |(cases h;done)
  |(simp only[yAb,yAc]at h;obtain⟨_,rfl⟩:=h;first|exact iM.same _ _|exact iM.app _ _ _)
def D3(op:Op):Bool:=dW op||dM op||kY op||eW op||isApp op
theorem aQc{P:Program}{fl:Nat}{fr:Ey}{σ σ':Ex}{op:Op}{p:PD}(hop:D3 op=true)(h:pop P fl fr σ op=some (p,σ')):iM op σ σ':=by
 unfold pop at h;split at h
 .simp only[yAb,yAc]at h;rw[<-h.2];exact iM.same _ _
 unfold cJ at h;split at h
 all_goals first
  |(cases h;done)
  |(simp[D3,dW,dM,kY,eW,isApp]at hop;done)
  |skip
 .repeat' split at h
  all_goals first
   |(cases h;done)
   |(simp only[yAb,yAc]at h;rw[<-h.2];exact iM.same _ _)
 .repeat' split at h
  all_goals first
   |(cases h;done)
   |(rename_i hs;simp only[yAb,yAc]at h;rw[<-h.2];exact aP9 rfl hs)
 .repeat' split at h
  all_goals first
   |(cases h;done)
   |(simp only[yAb,yAc]at h;rw[<-h.2];exact iM.same _ _)
 .repeat' split at h
  all_goals first
   |(cases h;done)
   |(simp only[yAb,yAc]at h;rw[<-h.2];exact iM.same _ _)
 .repeat' split at h
  all_goals first
   |(cases h;done)
   |exact aQb _ h
 .repeat' split at h
  all_goals first
   |(cases h;done)
   |(rename_i hs;cases h;exact aEY _ hs)
   |exact aP8 _ h
   |exact aQa _ h
   |(simp only[yAb]at h;subst h;rename_i hs;exact aEY _ hs)
def GZ(ops:List Oper):Bool:=ops.all λo=>D3 o.op||aEX o.op
theorem aEZ{op:Op}(h:D3 op=true):cE op=false/\(cU op=true->isApp op=true):=by
 cases op<;>simp[D3,dW,dM,kY,eW,isApp,cE,cU]at h ⊢
 rename_i c;obtain⟨cal,args,ts⟩:=c;cases cal with
 |value v=>simp[dW,dM,kY,eW,isApp]at h
 |builtin b=>cases b<;>simp[dW,dM,kY,eW,isApp,cU]at h ⊢
 |invoke _ _=>simp[dW,dM,kY,eW,isApp,cU]at h ⊢
section
variable{P:Program}{E:aE}{fl:Nat}{ops:Fc}
theorem XP:∀ {l:List Oper},GZ l=true->lA P l=some []
 | [],_=>rfl
 |o::l,h=>by
  simp only[GZ,yCl,yAr]at h;unfold lA;split
  .rename_i t ho;have h1:=h.1;rw[ho]at h1;cases h1
  .exact XP h.2
theorem aQd{o:Oper}(h:(D3 o.op||aEX o.op)=true):cE o.op=false:=by
 rw[yBp]at h;rcases h with h|h
 .exact(aEZ h).1
 .cases ho:o.op<;>rw[ho]at h<;>first|rfl|(cases h;done)
theorem XQ{B:List Nat}{n:Nat}:∀(l:List Oper) (i k:Nat) (fr:List PD) (σ:List aB) (x:Ey×List aB),(∀o∈l,(dW o.op||dM o.op||cE o.op||kY o.op||dN o.op)=true)->GZ l=true->(∀id∈B,∃b,σ[id]?=some (aB.box b)) ->
  dE P (xN E B) fl ops l fr σ=some x->∃tr,oH P (dG P E n) fl ops i k l fr σ=some (tr,x.1,x.2) /\
   ∀(j:Nat) (o:Oper),l[j]?=some o->cU o.op=true->(TE.at tr x.2 j).length<=(TE.at tr x.2 (j+1)).length/\∀id∈B,id<(TE.at tr x.2 j).length->(TE.at tr x.2 (j+1))[id]?=(TE.at tr x.2 j)[id]?
 | [],_,_,_,_,x,_,_,_,h=>by
   exact si
 |o::l,i,k,fr,σ,x,hsh,hk,hB,h=>by
  simp only[GZ,yCl,yAr]at hk;obtain⟨hko,hkl⟩:=hk;have hka:=aQd hko;simp only[dE]at h;split at h
  .rename_i hw;split at h
   .rename_i p σ1 hp;have hst:bX P (dG P E n) fl fr σ o.op=some (p,σ1)/\(∀id∈B,∃b,σ1[id]?=some (aB.box b))/\(cU o.op=true->σ.length<=σ1.length/\∀id∈B,id<σ.length->σ1[id]?=σ[id]?):=by
     unfold bX at hp ⊢;split at hp
     .rename_i tg args hc;obtain⟨q1,q2,q3⟩:=aDO hp;exact⟨QQ q1,λid hi=>by
       obtain⟨b,hb⟩:=hB id hi;exact⟨b,(q3 id hi (yA.1 hb).1).trans hb⟩,λ_=>⟨q2,q3⟩⟩
     .rename_i hc
      by_cases hq:D3 o.op=true
      .obtain⟨b1,b2⟩:=aQc hq hp;refine⟨hp,λid hi=>by
        obtain⟨b,hb⟩:=hB id hi;obtain⟨b',hb',_⟩:=b2 id b hb;exact⟨b',hb'⟩,λhm=>⟨b1,λid hi _=>?_⟩⟩
       obtain⟨b,hb⟩:=hB id hi;obtain⟨b',hb',e⟩:=b2 id b hb;have hns:eW o.op=false:=by
        have:=(aEZ hq).2 hm;cases ho:o.op<;>rw[ho]at this<;>first|rfl|(cases this;done)
       rw[hb',hb,e hns]
      .exfalso
       simp only[hq,yCf]at hko;cases ho:o.op<;>rw[ho]at hko<;>first|(cases hko;done)|skip
       rename_i c;obtain⟨cal,args,ts⟩:=c;cases cal with
       |value v=>
        rw[ho]at hp;unfold pop at hp;simp[dL,cJ]at hp
       |builtin b=>cases hko
       |invoke _ _=>cases hko
    obtain⟨tr,h1,h2⟩:=XQ (n:=n) l (i+1) k _ _ x (λo ho=>hsh o (by simp[ho])) hkl hst.2.1 h;refine⟨⟨fr,σ,p,j6 fr o.op⟩::tr,?_,?_⟩
    .exact nj
    .intro j o' ho' hm;cases j with
     |zero=>
      simp only[yBC,yAb]at ho';subst ho';rw[TE.uR,TE.OT,TE.OU h1];exact hst.2.2 hm
     |succ j=>
      exact gi
   .cases h
  .rename_i hw;obtain⟨tr,h1,h2⟩:=XQ (n:=n) l (i+1) k _ _ x (λo ho=>hsh o (by simp[ho])) hkl hB h;exact dx
theorem aQe{n:Nat}{fr:Ey}{σ:Ex}{x:Ey×Ex}(ρ:List (Nat×Nat))(B:List Nat){L:List (Option Nat)}(hs:(wY ops&&GZ ops.toList&&GI ops)=true)(hbx:∀id∈B,∃b,σ[id]?=some (aB.box b))(hd:mU P (dG P E n) fl ops fr σ=none)
  (hρ:(dQ.of ρ).ok fr) (hL:GK ops.toList (dQ.of ρ)=L) (hB:zK B L) (h:dE P (xN E B) fl ops ops.toList fr σ=some x):lB P (dG P E n) fl ops fr σ=some x:=by
 simp only[yAr,wY]at hs;obtain⟨⟨h1,h2⟩,h3⟩:=hs;rw[oE]at h1;have hr:=AM h1;obtain⟨tr,e1,e2⟩:=XQ (n:=n) ops.toList 0 σ.length fr σ x (λo ho=>by
  obtain⟨i,hi⟩:=yDd ho;exact hr.shape i o Dn) h2 hbx h
 have hft:=OS _ _ _ _ _ _ _ _ _ e1 hρ;unfold lB;rw[hd];simp only[h1,yAK,XP h2,yAl,e1];exact ak
def aE0(ops:Array Oper):Bool:=r9 ops.toList [] λms=>tT ops ms&&(List.range ops.toList.length).all λk=>!dZ eW ops.toList k||(List.range ops.toList.length).all λi=>!dZ dM ops.toList i||!loose ms i k
def DQ(P:Program)(call:bY)(fl:Nat)(ops:Array Oper)(i k:Nat)(l:List Oper)(fr:List PD)(σ:List aB)(F:List PD)(S:List aB):Prop:=∃tr,eL P call fl ops (bW ops.toList []) i k l fr σ=some (tr,F,S)
theorem DQ.nil{call:bY}{i k:Nat}{fr:Ey}{σ:Ex}:DQ P call fl ops i k [] fr σ fr σ:=⟨[],rfl⟩
theorem DQ.step{call:bY}{i k:Nat}{o:Oper}{rest:List Oper}{fr F aQ:Ey}{σ σ' S:Ex}{p:PD}(hw:(Region.wanted o (bM ops fr)&&!cE o.op)=true)(hp:fL P call fl (jC ops.toList (bW ops.toList []) i) k fr σ o.op=some (p,σ'))(hf:aW fr o.dst p=aQ)
  (h:DQ P call fl ops (i+1) k rest aQ σ' F S):DQ P call fl ops i k (o::rest) fr σ F S:=by
 rw[yAr,yBq]at hw;obtain⟨tr,h⟩:=h;refine⟨⟨fr,σ,p,j6 fr o.op⟩::tr,?_⟩;rw[<-hf]at h;simp only[eL,hw.1,hw.2,yAK,hp,h,yAx,yAN]
theorem DQ.alloc{call:bY}{i k:Nat}{o:Oper}{rest:List Oper}{fr F aQ:Ey}{σ S:Ex}(hw:(Region.wanted o (bM ops fr)&&cE o.op)=true)(hf:aW fr o.dst (.ptr k 0)=aQ)
  (h:DQ P call fl ops (i+1) (k+1) rest aQ σ F S):DQ P call fl ops i k (o::rest) fr σ F S:=by
 rw[yAr]at hw;obtain⟨tr,h⟩:=h;refine⟨⟨fr,σ,.ptr k 0,j6 fr o.op⟩::tr,?_⟩;rw[<-hf]at h;have ha:dW o.op=false:=by
  have:=hw.2;cases ho:o.op<;>rw[ho]at this<;>first|rfl|(cases this;done)
 have hp:fL P call fl (jC ops.toList (bW ops.toList []) i) k fr σ o.op=some (.ptr k 0,σ):=by
  unfold fL;rw[ha,yAI yj,yAJ hw.2]
 simp only[eL,hw.1,hw.2,yAK,hp,h]
theorem XJ{call:bY}{free:Bool}{k:Nat}{fr:Ey}{σ:Ex}{t:TypeId}{x:Operand}{a p:PD}(hx:bV fr x=some a)(h:oM P σ t a=some p):fL P call fl free k fr σ (.load t x)=some (p,σ):=by
 simp only[fL,dW,cE,cU,yAX,yBm,yAx,yAN,cJ,eA hx,h]
theorem aP4{call:bY}{free:Bool}{k:Nat}{fr:Ey}{σ σ':Ex}{t:TypeId}{x y:Operand}{a p:PD}(hx:bV fr x=some a)(hy:bV fr y=some p)(h:pH P fl σ t a p=some σ'):fL P call fl free k fr σ (.store t x y)=some (.aP [],σ'):=by
 simp only[fL,dW,cE,cU,yAX,yBm,yAx,yAN,cJ,eA hx,eA hy,h]
theorem aEU{call:bY}{free:Bool}{k:Nat}{fr:Ey}{σ:Ex}{t:TypeId}{len:Nat}{parts:Array (Nat×Operand)}{ps:List (Nat×PD)}{p:PD}(hx:yK fr parts.toList=some ps)(h:sE P t len (ps.map λq=>(q.1,q.2.strip))=some p):fL P call fl free k fr σ (.buildSlice t len parts)=some (p,σ):=by
 simp only[fL,dW,cE,cU,yAX,yBm,yAx,yAN,cJ,HM hx,h]
theorem aP3{call:bY}{free:Bool}{k:Nat}{fr:Ey}{σ:Ex}{t:TypeId}{parts:Array (Nat×Operand)}{ps:List (Nat×PD)}{p:PD}(hx:yK fr parts.toList=some ps)(h:CM P t ps=some p):fL P call fl free k fr σ (.build t parts)=some (p,σ):=by
 simp only[fL,dW,yAK,dL,HM hx,h]
theorem aEV{call:bY}{free:Bool}{k:Nat}{fr:Ey}{σ L:Ex}{t:TypeId}{x y:Operand}{a b p:PD}(hx:bV fr x=some a)(hy:bV fr y=some b)(h:∀fl,cX P fr.length fl σ t a b=some (p,σ++L)):fL P call fl free k fr σ (.call { callee:=.builtin .append,args:=#[x,y],argTypes:=#[t,t] })=some (p,σ++L):=by
 simp only[fL,dW,cE,cU,yAX,yBm,yAx,yAN,bX,fJ,pop,dL,cJ,jT,eA hx,eA hy,h,yAK];cases free<;>simp[List.drop_left]
theorem Wp.aP2{rd:Option Nat}{ms:List Nat}{Q:PO->Prop}{id:Nat}{y:Code}{fr F:Ey}{σ hs S:Ex}(hreg:aE0 ops=true)(hh:lA P ops.toList=some hs)(h:∀call,DQ P call fl ops 0 σ.length ops.toList fr (σ++hs) F S)(k:Wp P E rd y fl F ms S Q):Wp P E rd (.seq (.region id ops true) y) fl fr ms σ Q:=by
 refine .seq ⟨_,.L4 (N:=0) (λn _=>?_),.normal k⟩;obtain⟨tr,ht⟩:=h (dG P E n);unfold aE0 at hreg;rw[oE]at hreg;simp only[yAr,yAn,yAU,yBp,yBq]at hreg;unfold lB mU;simp only[hreg.1,yAK,hh,ht];rw[yAJ];simp only[oP,yAn,yAU,yBp,yBq];intro k hk;rcases hreg.2 k hk with h|h
 .exact .inl h
 .refine .inr λi hi=>?_
  rcases h i hi with h|h
  .exact .inl (.inl h)
  .exact .inl (.inr h)
theorem Wp.aP5{rd:Option Nat}{ms:List Nat}{Q:PO->Prop}{id f:Nat}{g:Er}{fr:Ey}{σ:Ex}(hE:E f=some g)(hg:∀fl args σ,0<fl->g fl args σ=none)(dK:σ≠[])(ρ:List (Nat×Nat))(B:List Nat)(L:List (Option Nat))
  (hs:(wY ops&&GZ ops.toList&&GI ops&&KF f ops)=true) (hbx:∀id∈B,∃b,σ[id]?=some (aB.box b)) (hρ:dQ.WK fr ρ) (hL:GK ops.toList (dQ.of ρ)=L) (hB:zK B L) (h:SQ P (xN E B) fl ops ops.toList fr σ (λfr' σ'=>Q ⟨.normal,fr',ms,σ'⟩)) :
  Wp P E rd (.region id ops true) fl fr ms σ Q:=by
 obtain⟨fr',σ',h1,h2⟩:=h.ex;rw[yAr]at hs;refine⟨_,.L4 (N:=0) (λn _=>aQe ρ B hs.1 hbx ?_ (dQ.aDN ρ hρ) hL hB h1),h2⟩;have h2:=hs.1;have h4:=hs.2;simp only[yAr,wY]at h2;obtain⟨⟨a1,a2⟩,_⟩:=h2;rw[oE]at a1;have hr:=AM a1;cases hd:mU P (dG P E n) fl ops fr σ with
 |none=>rfl
 |some y=>
  exfalso
  unfold mU at hd;simp only[a1,yAK,XP a2,yAl]at hd;rw[KF,oE]at h4;simp only[yCj,yAU,yAr,yBq,yAn]at h4;obtain⟨k,hk,⟨b1,b2⟩,b3⟩:=h4;have hkl:k<ops.toList.length:=Dy;have hno:eL P (dG P E n) fl ops (bW ops.toList []) 0 σ.length ops.toList fr σ=none:=by
   refine WG hE hg (λo ho=>?_) k 0 _ _ _ _ ops.toList[k] yg dK (yAh hkl) ?_ (by simpa using b2) ?_
   .exact uc
   .unfold WD at b1;rw[yAh hkl]at b1;exact b1
   .intro j o' hj ho';obtain⟨this,that⟩:=b3 j hj;exact sy
  rw[hno]at hd;cases hd
end
end
end Go.Kz
end
