/- Steps of the proof. -/
import Derived.Test.YtnogdlnjafblaaaGreatDoorP2
import Derived.Below
import Derived.OpenShut
import Derived.FnData
import Derived.MakeChecks
import Derived.ProofKit
import Derived.LaidMore
import Derived.Stop.Joined
import Derived.ChangeArms
import Derived.DataReads
import Derived.Test.YtnogdlnjafblaaaGreatDoorProg
import Derived.KernelRfl
import Derived.Handed
import Derived.SizedLaws
import Derived.Lib.Overlaps
import Derived.Lib.AppendZerosOnto
import Derived.RecoverIn
set_option linter.all false
set_option maxHeartbeats 40000000
set_option maxRecDepth 100000
open Go.Proofs.Tryz
noncomputable section
namespace Go.Kz
section
open Go.RowKit
def Cx.start(w:World):Cx:={ w:=w,ρ:=λ_=>undef,σ:=[],D:=λ_=>False,X:=λ_=>True }
theorem Sr.start{w:World}(hg:Gl (.start w)):Sr (.start w) where
 box:=λ_ _ h=>h.elim
 own:=λ_ _ _ _ h=>h.elim
 row:=λ_ _ _ _ _ h=>h.elim
 map:=λ_ _ h=>h.elim
 mark:=λ_ h=>h.elim
 loop:=λ_ _ _ _ _ _ h=>h.elim
 inj:=λ_ _ _ h=>h.elim
 lt:=λ_ _ h=>h.elim
 aW:=λ_ h=>h.elim
 fresh:=λ_ _=>trivial
 gU:=hg
theorem aHb{w:World}(a:Addr):(Cx.start w).av a:=⟨trivial,λ_ _ h=>h.elim⟩
theorem aOL{P:Program}(hN:∀(f:FuncId) fn,P.funcs[f]?=some fn->(fn.name== "runtime.NumGoroutine")=false):Open Fence.wide P:=⟨λ_=>trivial,rfl,hN,rfl⟩
theorem aOM{P:Program}{E:aE}(hE:aH P E)(hP:P.follows .mixedOrders=true)(hN:∀(f:FuncId) fn,P.funcs[f]?=some fn->(fn.name== "runtime.NumGoroutine")=false)
  {n:Nat} {f:FuncId} {args:Bw} {vs:Bz} {w:World} {p:PD} {σ':Bv} (h:bV P E n 0 (.inl f) args []=some (p,σ')) (hg:Gl (.start w)) (hv:aJ (.start w) vs args) :
  Calls P f vs.toArray w λe w'=>∃v c',e=.returned v/\c'.w=w'/\VR c' v p/\Nx 0 (.start w) c'/\Below w.heap.size w w':=by
 have:=((VN hE hP (aOL hN) n).fn (c:=.start w) (fl:=0) h (.start hg) (λ_ _ h=>h.elim) hv).2 0;refine yBF (callsIn_wide.1 this) λe w' he=>?_
 cases e with
 |returned v=>
  obtain⟨c',e1,_,_,nx,hvv,_⟩:=he;refine⟨v,c',rfl,e1,hvv,nx,?_⟩;subst e1;exact⟨nx.os,nx.tape,nx.output,nx.size,λk hk=>nx.frame k hk (λ_ h=>h.elim)⟩
 |panicked ch=>exact he.elim
 |outgrown=>exact he.elim
theorem aOv{P:Program}{E:aE}(hE:aH P E)(hP:P.follows .mixedOrders=true)(hN:∀(f:FuncId) fn,P.funcs[f]?=some fn->(fn.name== "runtime.NumGoroutine")=false)
  {n:Nat} {f:FuncId} {args:Bw} {vs:Bz} {w:World} {b:Bool} {σ':Bv} (h:bV P E n 0 (.inl f) args []=some (.bool b,σ')) (hg:Gl (.start w)) (hv:aJ (.start w) vs args) :
  Calls P f vs.toArray w λe w'=>e=.returned (.bool b)/\Below w.heap.size w w':=by
 refine yBF (aOM hE hP hN h hg hv) λe w' ⟨v,c',h1,h2,h3,h4,h5⟩=>?_
 rw[h3.L1]at h1;exact⟨h1,h5⟩
end
section
open Go.RowKit
end
section
section
variable{P:Program}{E:aE}{rd:Option Nat}{fl:Nat}{fr:Bw}{ms:List Nat}{σ:Bv}{r:PO}
def Ev(P:Program)(E:aE)(rd:Option Nat)(c:Code)(fl:Nat)(fr:List PD)(ms:List Nat)(σ:List U)(r:PO):Prop:=∃N,∀n,N<=n->gE P E n rd c fl fr ms σ=some r
def lM(P:Program)(E:aE)(fl:Nat)(f:FuncId ⊕ Nat)(args:List PD)(σ:List U)(p:PD)(σ':List U):Prop:=∃N,∀n,N<=n->bV P E n fl f args σ=some (p,σ')
theorem Ev.step{c:Code}{N:Nat}(h:∀n,N<=n->gE P E (n+1) rd c fl fr ms σ=some r):Ev P E rd c fl fr ms σ r:=
 ⟨N+1,λn hn=>by obtain⟨m,rfl⟩:∃m,n=m+1:=⟨n-1,xb⟩;exact h m xb⟩
theorem Ev.skip:Ev P E rd .skip fl fr ms σ ⟨.normal,fr,ms,σ⟩:=.step (N:=0) λ_ _=>rfl
theorem Ev.ret:Ev P E rd .ret fl fr ms σ ⟨.ret,fr,ms,σ⟩:=.step (N:=0) λ_ _=>rfl
theorem Ev.exit{id:Nat}:Ev P E rd (.exit id) fl fr ms σ ⟨.exit id,fr,ms,σ⟩:=.step (N:=0) λ_ _=>rfl
theorem Ev.seq{x y:Code}{aG:Bw}{ms1:List Nat}{σ1:Bv}(h:Ev P E rd x fl fr ms σ ⟨.normal,aG,ms1,σ1⟩)(k:Ev P E rd y fl aG ms1 σ1 r):Ev P E rd (.seq x y) fl fr ms σ r:=by
 exact jw
theorem Ev.aCP{x y:Code}(h:Ev P E rd x fl fr ms σ r)(hr:r.x≠.normal):Ev P E rd (.seq x y) fl fr ms σ r:=by
 exact jh
theorem Ev.cond{g:Operand}{x y:Code}{b:Bool}(hg:aT fr g=some (.bool b))(h:Ev P E rd (if b then x else y) fl fr ms σ r):Ev P E rd (.cond g x y) fl fr ms σ r:=by
 obtain⟨N,h⟩:=h;exact .step (N:=N) λn hn=>by
  simp only[gE,hg];cases b<;>exact h n hn
theorem Ev.block{id:Nat}{b:Code}{aG:Bw}{ms1:List Nat}{σ1:Bv}{k:Nat}(h:Ev P E rd b fl fr ms σ ⟨.exit k,aG,ms1,σ1⟩):Ev P E rd (.block id b) fl fr ms σ ⟨if k=id then .normal else .exit k,aG,ms1,σ1⟩:=by
 obtain⟨N,h⟩:=h;exact .step (N:=N) λn hn=>by simp only[gE,h n hn]
theorem Ev.aCQ{id:Nat}{b:Code}(h:Ev P E rd b fl fr ms σ r)(hr:∀k,r.x≠.exit k):Ev P E rd (.block id b) fl fr ms σ r:=by
 obtain⟨N,h⟩:=h;exact .step (N:=N) λn hn=>by
  simp only[gE,h n hn];obtain⟨x,a,b,c⟩:=r;cases x<;>first|exact absurd rfl (hr _)|rfl
theorem Ev.loop{b:Code}{aG:Bw}{ms1:List Nat}{σ1:Bv}(h:Ev P E rd b fl fr ms σ ⟨.normal,aG,ms1,σ1⟩)(k:Ev P E rd (.loop b) fl aG ms1 σ1 r):Ev P E rd (.loop b) fl fr ms σ r:=by
 exact jw
theorem Ev.aCR{b:Code}(h:Ev P E rd b fl fr ms σ r)(hr:r.x≠.normal):Ev P E rd (.loop b) fl fr ms σ r:=by
 exact jh
theorem Ev.region{id:Nat}{ops:Cb}{aG:Bw}{σ1:Bv}{N:Nat}(h:∀n,N<=n->dM P (bV P E n) fl ops ops.toList fr σ=some (aG,σ1)):Ev P E rd (.region id ops false) fl fr ms σ ⟨.normal,aG,ms,σ1⟩:=
 .step (N:=N) λn hn=>by
  have:=h n hn;unfold bV at this;simp only[gE,VP,this]
theorem Ev.aOK{id:Nat}{ops:Cb}{v:Value}{aG:Bw}{σ1:Bv}{N:Nat}(h:∀n,N<=n->VP P (bV P E n) fl ops fr σ=none/\HS P E (bV P E n) fl ops ops.toList fr σ=some (v,aG,σ1)):Ev P E rd (.region id ops false) fl fr ms σ ⟨.panic v,aG,ms,σ1⟩:=
 .step (N:=N) λn hn=>by
  have:=h n hn;unfold bV at this;simp only[gE,this.1,this.2]
theorem Ev.L0{id:Nat}{ops:Cb}{aG:Bw}{σ1:Bv}{N:Nat}(h:∀n,N<=n->pG P (bV P E n) fl ops fr σ=some (aG,σ1)):Ev P E rd (.region id ops true) fl fr ms σ ⟨.normal,aG,ms,σ1⟩:=
 .step (N:=N) λn hn=>by
  have:=h n hn;unfold bV at this;simp only[gE,this]
theorem Ev.draw{id:Nat}{ops:Cb}{aG:Bw}{σ1:Bv}{N:Nat}(h:∀n,N<=n->mA P (bV P E n) fl ops fr σ=some (aG,σ1)):Ev P E rd (.region id ops true) fl fr ms σ ⟨.normal,aG,ms,σ1⟩:=
 .L0 (N:=N) λn hn=>by unfold pG;rw[h n hn]
theorem lM.body{f:FuncId}{fn:Func}{c:Code}{args:Bw}{p:PD}{σ':Bv}(hE:E f=none)(hf:P.funcs[f]?=some fn)(hb:fn.body=some c)
  (h:Ev P E none c fl (args++List.replicate (fn.ntmps-args.length) (.aK [])) [] σ r) (hr:vL P fl fn r=some (p,σ')):lM P E fl (.inl f) args σ p σ':=by
 obtain⟨N,h⟩:=h;exact⟨N,λn hn=>by simp only[bV,oJ,hE,aAg,hf,hb,h n hn,hr]⟩
end
def aE.add(E:aE)(f:FuncId)(g:Nat->List PD->List U->Option (PD×List U)):aE:={ ret:=λf'=>if f'=f then some g else E.ret f',aZ:=E.aZ }
theorem aE.tI{E:aE}{f f':FuncId}{g:Bq}:(E.add f g).ret f'=if f'=f then some g else E.ret f':=rfl
theorem aE.add_same{E:aE}{f:FuncId}{g:Bq}:(E.add f g).ret f=some g:=yAJ rfl
def aE.Q9(E:aE)(f:FuncId)(q:Nat->List PD->List U->Option (Value×List U)):aE:={ ret:=E.ret,aZ:=λf'=>if f'=f then some q else E.aZ f' }
theorem aH.add{P:Program}{E:aE}(hE:aH P E)(hP:P.follows .mixedOrders=true){f:FuncId}{g:Bq}
  (h:∀fl args σ p σ',g fl args σ=some (p,σ')->lM P E fl (.inl f) args σ p σ'):aH P (E.add f g):=by
 refine⟨fun {F fl f' g' args c vs p σ'} hF hg hgo hs hX hv=>?_,hE.aZ⟩;rw[aE.tI]at hg;split at hg
 .rename_i e;subst e;simp only[yAb]at hg;subst hg;obtain⟨N,hN⟩:=h fl args c.σ p σ' hgo;exact(VN hE hP hF N).fn (hN N (yAk _)) hs hX hv
 .exact fj
end
section
def CI(ops:Array Oper)(i:Nat):Bool:=j9 ops.toList (cA ops.toList []) i
def mB(P:Program)(call:cO)(fl:Nat)(ops:Array Oper):List (Bool×Oper)->List PD->List U->Option (List PD×List U)
 | [],fr,σ=>some (fr,σ)
 |(free,o)::rest,fr,σ=>
  if Region.wanted o (aY ops fr)then
   match free with
   |true=>match bI P call fl fr σ o.op with
    |some (p,σ')=>mB P call fl ops rest (aL fr o.dst p) σ'
    |none=>none
   |false=>match bI P call (max fl σ.length) fr σ o.op with
    |some (p,σ')=>mB P call fl ops rest (aL fr o.dst p) (σ++σ'.drop σ.length)
    |none=>none
  else mB P call fl ops rest (aL fr o.dst (.aK [])) σ
def flags(ops:Array Oper)(i:Nat):List Oper->List (Bool×Oper)
 | []=>[]
 |o::r=>(!cI o.op||CI ops i,o)::flags ops (i+1) r
def Q2(ops:Array Oper):Bool:=
 JX ops (cA ops.toList [])&&ops.toList.all (λo=>!bZ o.op) &&
 (List.range ops.size).all λk=>!eN eO ops.toList k||(List.range ops.size).all λi=>!eN dA ops.toList i||!loose (cA ops.toList []) i k
section
variable{P:Program}{call:cO}{fl:Nat}{ops:Cb}
theorem aG8{fr:Bw}{σ:Bv}{op:Op}(h:cW op=true):cK P fl fr σ op=none:=by
 cases op<;>first|rfl|(simp[cW]at h;done)|(rename_i s d x;simp only[cW,yBm]at h;simp only[cK,h,yAx,yAN];done)|skip
 rename_i c;obtain⟨callee,args,ts⟩:=c;cases callee with
 |value f=>simp[cW]at h
 |invoke r m=>simp[cW]at h
 |builtin b=>cases b<;>first|rfl|(simp[cW]at h)
theorem QU{k:Nat}{free:Bool}{fr:Bw}{σ:Bv}{op:Op}(hs:(cW op||dA op||bZ op||iW op||cX op)=true)(ha:bZ op=false) :
  eA P call fl free k fr σ op=(match (!cI op||free)with
   |true=>bI P call fl fr σ op
   |false=>match bI P call (max fl σ.length) fr σ op with
    |some (p,σ')=>some (p,σ++σ'.drop σ.length)
    |none=>none):=by
 unfold eA
 by_cases hA:cW op=true
 .obtain⟨hpc,_,hW,_⟩:=aHn (fr:=fr) hA;have hM:cI op=false:=by simp[cX]at hW;exact hW.2
  rw[yAJ hA,hM];simp only[yBR,yCL];unfold bI pop;rw[hpc];simp only;cases hp:dD P fr op with
  |some p=>rfl
  |none=>
   simp only;rw[aG8 hA]
 .simp only[yBW]at hA;rw[hA,ha];simp only[yAx,yAN]
  by_cases hM:cI op=true
  .rw[hM];cases free with
   |true=>simp
   |false=>
    simp only[yBR,yCP,yAM,yBw,yCM];cases bI P call (max fl σ.length) fr σ op<;>rfl
  .simp only[yBW]at hM;rw[hM];simp only[yCi,yAx,yAN,yBR,yCL];have h3:dA op=true\/iW op=true\/eO op=true:=by
    simp only[hA,ha,cX,hM,yBX,yCM,yBf]at hs;rcases hs with(h|h)|h
    .exact .inl h
    .exact .inr (.inl h)
    .exact .inr (.inr h)
   obtain⟨hv,hp,_⟩:=VO (P:=P) (fr:=fr) h3;unfold bI pop;rw[hp,hv]
theorem aHh(h:Q2 ops=true)(fr:List PD)(σ:List U):mA P call fl ops fr σ=mB P call fl ops (flags ops 0 ops.toList) fr σ:=by
 simp only[Q2,yAr]at h;obtain⟨⟨hreg,hall⟩,hfeet⟩:=h;have hr:=JY hreg;have hna:∀(l:List Oper),l.all (λo=>!bZ o.op)=true->kN P l=some []:=by
  intro l
  induction l with
  |nil=>intro _;rfl
  |cons o l ih=>
   intro hl;simp only[yBG,yAr,yBm]at hl;unfold kN;split
   .rename_i t ht;rw[ht]at hl;simp[bZ]at hl
   .exact ih hl.2
 have key:∀(l:List Oper) (i k:Nat) (fr:List PD) (σ:List U),ops.toList.drop i=l ->
   (match fY P call fl ops (cA ops.toList []) i k l fr σ with|some (_,fr',σ')=>some (fr',σ')|none=>none)=mB P call fl ops (flags ops i l) fr σ:=by
  intro l
  induction l with
  |nil=>intro i k fr σ _;rfl
  |cons o rest ih=>
   intro i k fr σ hdrop;have ho:ops[i]?=some o:=by
    exact uo
   have vN:ops.toList.drop (i+1)=rest:=by rw[<-yBk,hdrop];rfl
   have hal:bZ o.op=false:=by
    have:=yAn.1 hall o (yBQ.2 (yCI ho));exact bn
   simp only[fY,flags,mB];cases hw:Region.wanted o (aY ops fr)with
   |true=>
    simp only[yAM];rw[QU (hr.shape i o ho) hal];simp only[CI];cases(!cI o.op||j9 ops.toList (cA ops.toList []) i)with
    |true=>
     simp only;cases hp:bI P call fl fr σ o.op with
     |none=>rfl
     |some q=>
      obtain⟨p,σ'⟩:=q;simp only;rw[<-ih (i+1) (if bZ o.op=true then k+1 else k) (aL fr o.dst p) σ' vN];cases fY P call fl ops (cA ops.toList []) (i+1) (if bZ o.op=true then k+1 else k) rest (aL fr o.dst p) σ'<;>rfl
    |false=>
     simp only;cases hp:bI P call (max fl σ.length) fr σ o.op with
     |none=>rfl
     |some q=>
      obtain⟨p,σ'⟩:=q;simp only;rw[<-ih (i+1) (if bZ o.op=true then k+1 else k) (aL fr o.dst p) _ vN];cases fY P call fl ops (cA ops.toList []) (i+1) (if bZ o.op=true then k+1 else k) rest (aL fr o.dst p) (σ++σ'.drop σ.length)<;>rfl
   |false=>
    simp only[yAx,yAN];rw[<-ih (i+1) (if bZ o.op=true then k+1 else k) (aL fr o.dst (.aK [])) σ vN];cases fY P call fl ops (cA ops.toList []) (i+1) (if bZ o.op=true then k+1 else k) rest (aL fr o.dst (.aK [])) σ<;>rfl
 unfold mA;simp only[hreg,yAM,hna _ hall,yAl];rw[<-key ops.toList 0 σ.length fr σ wz];split
 .rename_i tr fr' σ' hops;have hfo:CH ops.toList (cA ops.toList []) tr=true:=by
   simp only[CH,yAn,yAZ];simp only[yAn,yAZ]at hfeet;intro k hk;have h1:=hfeet k Ak;cases hs:eN eO ops.toList k with
   |false=>simp
   |true=>
    rw[hs]at h1;simp only[yBw,yBX,yAn,yAZ]at h1 ⊢;intro i hi;have h2:=h1 i Ae;simp only[yBf]at h2 ⊢;exact .inl h2
  rw[hfo,hops];rfl
 .rename_i hops;rw[hops]
end
end
def Cx.bare(c:Cx):Cx:={ w:=c.w,ρ:=λ_=>undef,σ:=[],D:=λ_=>False,X:=c.av }
theorem aHl{c:Cx}(hs:Sr c){a:Addr}(h:c.w.heap.size<=a.block):c.av a:=by
 exact bq
theorem aCS{c:Cx}(a:Addr):c.bare.av a↔c.av a:=⟨λh=>h.1,λh=>⟨h,λ_ _ hd=>hd.elim⟩⟩
theorem aHm{g:Nat}{ds:Bw}(h:JT g=some ds):PD.fG ds=true:=by
 unfold JT at h;split at h
 .simp only[yAb]at h;subst h;rw[PD.HR];simp only[yAn,yAw]
  rintro x ⟨y,_,rfl⟩
  simp[PD.dK]
 .exact ah
theorem Sr.bare{c:Cx}(hs:Sr c):Sr c.bare where
 box:=λ_ _ h=>h.elim
 own:=λ_ _ _ _ h=>h.elim
 row:=λ_ _ _ _ _ h=>h.elim
 map:=λ_ _ h=>h.elim
 mark:=λ_ h=>h.elim
 loop:=λ_ _ _ _ _ _ h=>h.elim
 inj:=λ_ _ _ h=>h.elim
 lt:=λ_ _ h=>h.elim
 aW:=λ_ h=>h.elim
 fresh:=λ_ h=>aHl hs h
 gU:=⟨λg ds e=>(hs.gU.1 g ds e).free (λa v h1 h2=>⟨(aCS a).2 h1,h2⟩) (by simpa [PD.dK]using aHm e),λg hh=>⟨(hs.gU.2 g hh).1,λ_ h=>h.elim⟩⟩
theorem aH.Q8{P:Program}{E:aE}(hE:aH P E)(hP:P.follows .mixedOrders=true){f:FuncId}{g:List PD->Option PD}
  (h:∀args p,g args=some p->∃p1 σ1,lM P E 0 (.inl f) (args.map PD.strip) [] p1 σ1/\p1.strip=p/\PD.fG (args.map PD.strip)=true/\p.dK=true) :
  aH P (E.add f (λ_ args σ=>match g args with|some p=>some (p,σ)|none=>none)):=by
 refine⟨fun {F fl f' g' args c vs p σ'} hF hg hgo hs hX hv=>?_,hE.aZ⟩;rw[aE.tI]at hg;split at hg
 .rename_i e;subst e;simp only[yAb]at hg;subst hg;cases hga:g args with
  |none=>simp only[hga]at hgo;cases hgo
  |some q=>
   simp only[hga,yAb,yAc]at hgo;obtain⟨rfl,rfl⟩:=hgo;obtain⟨p1,σ1,⟨N,hN⟩,e1,e2,e3⟩:=h args q hga;have gV:aJ c.bare vs (args.map PD.strip):=hv.strip.free (λa v h1 h2=>⟨(aCS a).2 h1,h2⟩) e2;have:=(VN hE hP hF N).fn (c:=c.bare) (hN N (yAk _)) hs.bare (λ_ _ h=>h.elim) gV;exact au
 .exact fj
section
structure Em (α:Type) where
 aA:α->PD
 inj:∀ {x y},aA x=aA y->x=y
 str:∀x,(aA x).strip=aA x
 eR:∀x,(aA x).dK=true
structure bC (α:Type) where
 cells:α->Bw
 len:Nat
 hlen:∀x,(cells x).length=len
 inj:∀ {x y},cells x=cells y->x=y
 str:∀x,(cells x).map PD.strip=cells x
 eR:∀x,(cells x).all PD.dK=true
section
variable{α β γ δ:Type}
open Classical in
def Em.dec(e:Em α)(p:PD):Option α:=if h:∃x,p.strip=e.aA x then some h.choose else none
theorem Em.cR{e:Em α}{p:PD}{x:α}(h:p.strip=e.aA x):e.dec p=some x:=by
 have hx:∃x,p.strip=e.aA x:=⟨x,h⟩;unfold Em.dec;rw[dif_pos hx];exact yAP some (e.inj (hx.choose_spec.symm.trans h))
theorem Em.JW{e:Em α}{p:PD}{x:α}(h:e.dec p=some x):p.strip=e.aA x:=by
 unfold Em.dec at h;split at h
 .rename_i hx;simp only[yAb]at h;subst h;exact hx.choose_spec
 .cases h
@[simp] theorem Em.Q5{e:Em α}{x:α}:e.dec (e.aA x)=some x:=Em.cR (e.str x)
def Em.int(k:IntKind):Em Int:=⟨PD.int k,λh=>yf,λ_=>Ao,λ_=>by simp[PD.dK]⟩
def Em.bool:Em Bool:=⟨PD.bool,λh=>yf,λ_=>Ao,λ_=>by simp[PD.dK]⟩
def Em.text:Em (List UInt8):=⟨PD.str,λh=>yf,λ_=>Ao,λ_=>by simp[PD.dK]⟩
def Em.unit:Em Unit:=⟨λ_=>.aK [],λ_=>rfl,λ_=>by simp[PD.strip,PD.kP],λ_=>by simp[PD.dK,PD.fG]⟩
def sz(k:Nat)(xs:List α):Nat:=if xs.length=0 then 0 else k
@[simp] theorem a05{k:Nat}{xs:List α}:(xs=[]\/k=sz k xs)=True:=by
  cases xs<;>simp[sz]
theorem aCF{k:Nat}{xs:List α}(h:xs≠[]):sz k xs=k:=by
 cases xs<;>simp[sz]at *
theorem aHk{f:α->β}(hf:∀x y,f x=f y->x=y):∀(xs ys:List α),xs.map f=ys.map f->xs=ys
 | [],[],_=>rfl
 | [],_::_,h=>yp
 |_::_,[],h=>yp
 |x::xs,y::ys,h=>by
  simp only[yB,yBs]at h;rw[hf x y h.1,aHk hf xs ys h.2]
theorem aOG{z k:Nat}{xs:List α}(h:xs=[]\/z=k):sz z xs=sz k xs:=by
 rcases h with rfl|rfl
 .rfl
 .rfl
def Em.list(e:Em α)(k:Nat):Em (List α) where
 aA:=λxs=>.slice (sz k xs) (xs.map e.aA) .any
 inj:=fun {x y} h=>by
  simp only[PD.slice.injEq,yAW]at h;exact aHk (λ_ _ h=>e.inj h) x y h.2
 str:=λxs=>by
  rw[PD.nQ];have:(xs.map e.aA).map PD.strip=xs.map e.aA:=by
   rw[yBo];exact yAG λx _=>e.str x
  rw[this];cases xs<;>simp[sz]
 eR:=λxs=>by
  simp only[PD.dK,PD.HR,yCc,List.all_map];exact yAn.2 λx _=>e.eR x
def Em.gP(a:Em α)(b:Em β):Em (α×β) where
 aA:=λx=>.aK [a.aA x.1,b.aA x.2]
 inj:=fun {x y} h=>by
  simp only[PD.aK.injEq,yBs,yAW]at h;exact yCq (a.inj h.1) (b.inj h.2)
 str:=λx=>by simp[PD.strip,PD.kP,a.str,b.str]
 eR:=λx=>by simp[PD.dK,PD.fG,a.eR,b.eR]
def Em.J8(a:Em α)(b:Em β)(c:Em γ):Em (α×β×γ) where
 aA:=λx=>.aK [a.aA x.1,b.aA x.2.1,c.aA x.2.2]
 inj:=fun {x y} h=>by
  simp only[PD.aK.injEq,yBs,yAW]at h;exact yCq (a.inj h.1) (yCq (b.inj h.2.1) (c.inj h.2.2))
 str:=λx=>by simp[PD.strip,PD.kP,a.str,b.str,c.str]
 eR:=λx=>by simp[PD.dK,PD.fG,a.eR,b.eR,c.eR]
def Em.aOH(a:Em α)(b:Em β)(c:Em γ)(d:Em δ):Em (α×β×γ×δ) where
 aA:=λx=>.aK [a.aA x.1,b.aA x.2.1,c.aA x.2.2.1,d.aA x.2.2.2]
 inj:=fun {x y} h=>by
  simp only[PD.aK.injEq,yBs,yAW]at h;exact yCq (a.inj h.1) (yCq (b.inj h.2.1) (yCq (c.inj h.2.2.1) (d.inj h.2.2.2)))
 str:=λx=>by simp[PD.strip,PD.kP,a.str,b.str,c.str,d.str]
 eR:=λx=>by simp[PD.dK,PD.fG,a.eR,b.eR,c.eR,d.eR]
def bC.one(e:Em α):bC α where
 cells:=λx=>[e.aA x]
 len:=1
 hlen:=λ_=>rfl
 inj:=λh=>e.inj yf
 str:=λx=>by simp[e.str]
 eR:=λx=>by simp[e.eR]
def bC.pair(a:bC α)(b:bC β):bC (α×β) where
 cells:=λx=>a.cells x.1++b.cells x.2
 len:=a.len+b.len
 hlen:=λ_=>by simp[a.hlen,b.hlen]
 inj:=fun {x y} h=>by
  have:=List.append_inj h (by simp[a.hlen]);exact yCq (a.inj this.1) (b.inj this.2)
 str:=λ_=>by simp only[yAH,a.str,b.str]
 eR:=λ_=>by simp only[List.all_append,a.eR,b.eR,yCP]
def bC.mF(a:bC β)(f:α->β)(hf:∀x y,f x=f y->x=y):bC α where
 cells:=λx=>a.cells (f x)
 len:=a.len
 hlen:=λx=>a.hlen _
 inj:=λh=>hf _ _ (a.inj h)
 str:=λx=>a.str _
 eR:=λx=>a.eR _
def Em.agg(a:bC α):Em α where
 aA:=λx=>.agg (a.cells x)
 inj:=λh=>a.inj yf
 str:=λ_=>by simp only[PD.strip,PD.LW,a.str]
 eR:=λ_=>by simp only[PD.dK,PD.HR,a.eR]
def Em.mF(a:Em β)(f:α->β)(hf:∀x y,f x=f y->x=y):Em α where
 aA:=λx=>a.aA (f x)
 inj:=λh=>hf _ _ (a.inj h)
 str:=λx=>a.str _
 eR:=λx=>a.eR _
@[simp] theorem a06{k:IntKind}{n:Int}:(Em.int k).aA n=.int k n:=rfl
@[simp] theorem a07{b:Bool}:Em.bool.aA b=.bool b:=rfl
@[simp] theorem a08{s:Bx}:Em.text.aA s=.str s:=rfl
@[simp] theorem a09{u:Unit}:Em.unit.aA u=.aK []:=rfl
@[simp] theorem gA{e:Em α}{k:Nat}{xs:List α}:(e.list k).aA xs=.slice (sz k xs) (xs.map e.aA) .any:=rfl
@[simp] theorem a1a{a:Em α}{b:Em β}{x:α×β}:(a.gP b).aA x=.aK [a.aA x.1,b.aA x.2]:=rfl
@[simp] theorem a1b{a:Em α}{b:Em β}{c:Em γ}{x:α×β×γ}:(a.J8 b c).aA x=.aK [a.aA x.1,b.aA x.2.1,c.aA x.2.2]:=rfl
@[simp] theorem a1c{a:Em α}{b:Em β}{c:Em γ}{d:Em δ}{x:α×β×γ×δ}:(a.aOH b c d).aA x=.aK [a.aA x.1,b.aA x.2.1,c.aA x.2.2.1,d.aA x.2.2.2]:=rfl
@[simp] theorem a1d{k:IntKind}{n:Int}:(Em.int k).dec (.int k n)=some n:=Em.cR Ao
@[simp] theorem a1e{s:Bx}:Em.text.dec (.str s)=some s:=Em.cR Ao
theorem aOI{e:Em α}{k s:Nat}{xs:List α}{tok:Tok}(h:xs=[]\/s=k):(e.list k).dec (.slice s (xs.map e.aA) tok)=some xs:=by
 refine Em.cR ?_;cases xs with
 |nil=>simp[PD.nQ,sz]
 |cons x xs=>
  have h:s=k:=yf;subst h;simp only[yB,PD.nQ,yAK,Nat.add_one_ne_zero,yAN,e.str,yBo,gA,sz]
  congr 2
  exact yAG λx _=>e.str x
@[simp] theorem aOJ{e:Em α}{k:Nat}{xs:List α}{tok:Tok}:(e.list k).dec (.slice k (xs.map e.aA) tok)=some xs:=aOI wz
open Classical in
def bJ(c:Prop)(x:Option α):Option α:=if c then x else none
@[simp] theorem dN{c:Prop}{x:Option α}(h:c):bJ c x=x:=yAJ h
theorem dF{c:Prop}{x:Option α}{y:α}(h:bJ c x=some y):c/\x=some y:=by
 unfold bJ at h;split at h
 .exact⟨‹_›,h⟩
 .cases h
def Q6(r:Em β)(F:Option β):List PD->Option PD
 | []=>match F with|some z=>some (r.aA z)|none=>none
 |_=>none
def aX(a:Em α)(r:Em β)(F:α->Option β):List PD->Option PD
 | [p]=>match a.dec p with
   |some x=>match F x with|some z=>some (r.aA z)|none=>none
   |none=>none
 |_=>none
def cV(a:Em α)(b:Em β)(r:Em γ)(F:α->β->Option γ):List PD->Option PD
 | [p,q]=>match a.dec p,b.dec q with
   |some x,some y=>match F x y with|some z=>some (r.aA z)|none=>none
   |_,_=>none
 |_=>none
def Q7(a:Em α)(b:Em β)(c:Em γ)(r:Em δ)(F:α->β->γ->Option δ):List PD->Option PD
 | [p,q,s]=>match a.dec p,b.dec q,c.dec s with
   |some x,some y,some u=>match F x y u with|some z=>some (r.aA z)|none=>none
   |_,_,_=>none
 |_=>none
def entry(g:List PD->Option PD):Nat->List PD->List U->Option (PD×List U):=λ_ args σ=>match g args with|some p=>some (p,σ)|none=>none
variable{P:Program}{E:aE}{f:FuncId}
def aI(P:Program)(E:aE)(f:FuncId)(args:List PD)(p:PD):Prop:=∃p1 σ1,lM P E 0 (.inl f) args [] p1 σ1/\p1.strip=p
theorem aH.iN(hE:aH P E)(hP:P.follows .mixedOrders=true){a:Em α}{r:Em β}{F:α->Option β}(h:∀x z,F x=some z->aI P E f [a.aA x] (r.aA z)):aH P (E.add f (entry (aX a r F))):=by
 refine hE.Q8 hP λargs p hg=>?_
 match args,hg with
 | [q],hg=>
   simp only[aX]at hg;split at hg
   .rename_i x hx;split at hg
    .rename_i z hz;simp only[yAb]at hg;subst hg;obtain⟨p1,σ1,e1,e2⟩:=h x z hz;have:=Em.JW hx;exact⟨p1,σ1,by simpa [this]using e1,e2,by simp[this,PD.fG,a.eR],r.eR z⟩
    .cases hg
   .cases hg
theorem aH.CP(hE:aH P E)(hP:P.follows .mixedOrders=true){a:Em α}{b:Em β}{r:Em γ}{F:α->β->Option γ}(h:∀x y z,F x y=some z->aI P E f [a.aA x,b.aA y] (r.aA z)) :
  aH P (E.add f (entry (cV a b r F))):=by
 refine hE.Q8 hP λargs p hg=>?_
 match args,hg with
 | [q,s],hg=>
   simp only[cV]at hg;split at hg
   .rename_i x y hx hy;split at hg
    .rename_i z hz;simp only[yAb]at hg;subst hg;obtain⟨p1,σ1,e1,e2⟩:=h x y z hz;have h1:=Em.JW hx;have h2:=Em.JW hy;exact⟨p1,σ1,by simpa [h1,h2]using e1,e2,by simp[h1,h2,PD.fG,a.eR,b.eR],r.eR z⟩
    .cases hg
   .cases hg
end
end
section
section
variable{P:Program}{E:aE}{rd:Option Nat}{fl:Nat}{fr:Bw}{ms:List Nat}{σ:Bv}{Q:PO->Prop}
structure Wp (P:Program) (E:aE) (rd:Option Nat) (c:Code) (fl:Nat) (fr:List PD) (ms:List Nat) (σ:List U) (Q:PO->Prop):Prop where
 ex:∃r,Ev P E rd c fl fr ms σ r/\Q r
theorem aHj{n:Nat}{tg:FuncId ⊕ Nat}{args:Bw}{x:PD×Bv}(h:cN E fl tg args σ=some x):bV P E n fl tg args σ=some x:=by
 cases tg with
 |inl f=>
  simp only[cN]at h;simp only[bV,oJ];split at h
  .rename_i g hg;first|exact h|(rw[hg];exact h)
  .cases h
 |inr id=>cases h
theorem NM{n:Nat}{op:Op}{x:PD×Bv}(h:bI P (cN E) fl fr σ op=some x):bI P (bV P E n) fl fr σ op=some x:=by
 unfold bI at *;split at h
 .exact aHj h
 .exact h
theorem aAc{n:Nat}{ops:Cb}:∀ {l:List Oper} {fr:Bw} {σ:Bv} {x:Bw×Bv},dM P (cN E) fl ops l fr σ=some x->dM P (bV P E n) fl ops l fr σ=some x
 | [],_,_,_,h=>h
 |o::rest,fr,σ,x,h=>by
  simp only[dM]at h ⊢;split at h
  .rename_i hw;rw[yAJ hw];split at h
   .rename_i p σ1 hp;rw[NM hp];exact aAc h
   .cases h
  .rename_i hw;rw[yAI hw];exact aAc h
theorem aAf{n:Nat}{ops:Cb}:∀ {l:List (Bool×Oper)} {fr:Bw} {σ:Bv} {x:Bw×Bv},mB P (cN E) fl ops l fr σ=some x->mB P (bV P E n) fl ops l fr σ=some x
 | [],_,_,_,h=>h
 |(free,o)::rest,fr,σ,x,h=>by
  simp only[mB]at h ⊢;split at h
  .rename_i hw;rw[yAJ hw];cases free with
   |true=>
    exact mg
   |false=>
    exact mg
  .rename_i hw;rw[yAI hw];exact aAf h
theorem Wp.mono{c:Code}{Q':PO->Prop}(h:Wp P E rd c fl fr ms σ Q)(k:∀r,Q r->Q' r):Wp P E rd c fl fr ms σ Q':=by
 obtain⟨r,h1,h2⟩:=h.ex;exact⟨r,h1,k r h2⟩
theorem Wp.skip(h:Q ⟨.normal,fr,ms,σ⟩):Wp P E rd .skip fl fr ms σ Q:=⟨_,.skip,h⟩
theorem Wp.ret(h:Q ⟨.ret,fr,ms,σ⟩):Wp P E rd .ret fl fr ms σ Q:=⟨_,.ret,h⟩
theorem Wp.exit{id:Nat}(h:Q ⟨.exit id,fr,ms,σ⟩):Wp P E rd (.exit id) fl fr ms σ Q:=⟨_,.exit,h⟩
structure aS (P:Program) (E:aE) (rd:Option Nat) (y:Code) (fl:Nat) (Q:PO->Prop) (r:PO):Prop where
 nx:r.x=.normal->Wp P E rd y fl r.fr r.ms r.σ Q
 out:r.x≠.normal->Q r
theorem Wp.seq{x y:Code}(h:Wp P E rd x fl fr ms σ (aS P E rd y fl Q)):Wp P E rd (.seq x y) fl fr ms σ Q:=by
 obtain⟨⟨x1,aG,ms1,σ1⟩,h1,h2⟩:=h.ex;cases x1 with
 |normal=>
  obtain⟨r2,h3,h4⟩:=(h2.nx rfl).ex;exact⟨r2,.seq h1 h3,h4⟩
 |ret=>exact⟨_,.aCP h1 wz,h2.out wz⟩
 |panic v=>exact⟨_,.aCP h1 wz,h2.out wz⟩
 |exit k=>exact⟨_,.aCP h1 wz,h2.out wz⟩
theorem aS.normal{y:Code}(h:Wp P E rd y fl fr ms σ Q):aS P E rd y fl Q ⟨.normal,fr,ms,σ⟩:=⟨λ_=>h,λe=>absurd rfl e⟩
theorem aS.ret{y:Code}(h:Q ⟨.ret,fr,ms,σ⟩):aS P E rd y fl Q ⟨.ret,fr,ms,σ⟩:=⟨λe=>xx,λ_=>h⟩
theorem aS.panic{y:Code}{v:Value}(h:Q ⟨.panic v,fr,ms,σ⟩):aS P E rd y fl Q ⟨.panic v,fr,ms,σ⟩:=⟨λe=>xx,λ_=>h⟩
theorem aS.exit{y:Code}{k:Nat}(h:Q ⟨.exit k,fr,ms,σ⟩):aS P E rd y fl Q ⟨.exit k,fr,ms,σ⟩:=⟨λe=>xx,λ_=>h⟩
theorem Wp.cond{g:Operand}{x y:Code}{b:Bool}(hg:aT fr g=some (.bool b))(h1:b=true->Wp P E rd x fl fr ms σ Q)(h2:b=false->Wp P E rd y fl fr ms σ Q):Wp P E rd (.cond g x y) fl fr ms σ Q:=by
 cases b with
 |true=>obtain⟨r,e1,e2⟩:=(h1 rfl).ex;exact⟨r,.cond hg e1,e2⟩
 |false=>obtain⟨r,e1,e2⟩:=(h2 rfl).ex;exact⟨r,.cond hg e1,e2⟩
theorem Wp.cond_true{g:Operand}{x y:Code}(hg:aT fr g=some (.bool true))(h1:Wp P E rd x fl fr ms σ Q):Wp P E rd (.cond g x y) fl fr ms σ Q:=.cond hg (λ_=>h1) (λh=>xz)
theorem Wp.cond_false{g:Operand}{x y:Code}(hg:aT fr g=some (.bool false))(h1:Wp P E rd y fl fr ms σ Q):Wp P E rd (.cond g x y) fl fr ms σ Q:=.cond hg (λh=>xz) (λ_=>h1)
structure aO (id:Nat) (Q:PO->Prop) (r:PO):Prop where
 out:∀k,r.x=.exit k->Q ⟨if k=id then .normal else .exit k,r.fr,r.ms,r.σ⟩
 on:(∀k,r.x≠.exit k)->Q r
theorem Wp.block{id:Nat}{b:Code}(h:Wp P E rd b fl fr ms σ (aO id Q)):Wp P E rd (.block id b) fl fr ms σ Q:=by
 obtain⟨⟨x1,aG,ms1,σ1⟩,h1,h2⟩:=h.ex;cases x1 with
 |normal=>exact⟨_,.aCQ h1 wz,h2.on wz⟩
 |ret=>exact⟨_,.aCQ h1 wz,h2.on wz⟩
 |panic v=>exact⟨_,.aCQ h1 wz,h2.on wz⟩
 |exit k=>exact⟨_,.block h1,h2.out k rfl⟩
theorem aO.normal{id:Nat}(h:Q ⟨.normal,fr,ms,σ⟩):aO id Q ⟨.normal,fr,ms,σ⟩:=⟨λ_ e=>xx,λ_=>h⟩
theorem aO.ret{id:Nat}(h:Q ⟨.ret,fr,ms,σ⟩):aO id Q ⟨.ret,fr,ms,σ⟩:=⟨λ_ e=>xx,λ_=>h⟩
theorem aO.panic{id:Nat}{v:Value}(h:Q ⟨.panic v,fr,ms,σ⟩):aO id Q ⟨.panic v,fr,ms,σ⟩:=⟨λ_ e=>xx,λ_=>h⟩
theorem aO.here{id:Nat}(h:Q ⟨.normal,fr,ms,σ⟩):aO id Q ⟨.exit id,fr,ms,σ⟩:=
 ⟨λk e=>by simp only[PX.exit.injEq]at e;subst e;rw[yAJ rfl];exact h,λe=>absurd rfl (e id)⟩
theorem aO.there{id k:Nat}(hk:k≠id)(h:Q ⟨.exit k,fr,ms,σ⟩):aO id Q ⟨.exit k,fr,ms,σ⟩:=
 ⟨λk' e=>by simp only[PX.exit.injEq]at e;subst e;rw[yAI hk];exact h,λe=>absurd rfl (e k)⟩
structure bP (P:Program) (E:aE) (rd:Option Nat) (b:Code) (fl:Nat) (Q:PO->Prop) (r:PO):Prop where
 nx:r.x=.normal->Wp P E rd (.loop b) fl r.fr r.ms r.σ Q
 out:r.x≠.normal->Q r
theorem Wp.loop{b:Code}(h:Wp P E rd b fl fr ms σ (bP P E rd b fl Q)):Wp P E rd (.loop b) fl fr ms σ Q:=by
 obtain⟨⟨x1,aG,ms1,σ1⟩,h1,h2⟩:=h.ex;cases x1 with
 |normal=>
  obtain⟨r2,h3,h4⟩:=(h2.nx rfl).ex;exact⟨r2,.loop h1 h3,h4⟩
 |ret=>exact⟨_,.aCR h1 wz,h2.out wz⟩
 |panic v=>exact⟨_,.aCR h1 wz,h2.out wz⟩
 |exit k=>exact⟨_,.aCR h1 wz,h2.out wz⟩
theorem Wp.region{id:Nat}{ops:Cb}{aG:Bw}{σ1:Bv}(h:dM P (cN E) fl ops ops.toList fr σ=some (aG,σ1))(k:Q ⟨.normal,aG,ms,σ1⟩):Wp P E rd (.region id ops false) fl fr ms σ Q:=
 ⟨_,.region (N:=0) (λ_ _=>aAc h),k⟩
theorem Wp.draw{id:Nat}{ops:Cb}{aG:Bw}{σ1:Bv}(hs:Q2 ops=true)(h:mB P (cN E) fl ops (flags ops 0 ops.toList) fr σ=some (aG,σ1))(k:Q ⟨.normal,aG,ms,σ1⟩) :
  Wp P E rd (.region id ops true) fl fr ms σ Q:=
 ⟨_,.draw (N:=0) (λ_ _=>by rw[aHh hs];exact aAf h),k⟩
theorem aI.body{f:FuncId}{fn:Func}{c:Code}{args:Bw}{p:PD}(hE:E f=none)(hf:P.funcs[f]?=some fn)(hb:fn.body=some c)
  (h:Wp P E none c 0 (args++List.replicate (fn.ntmps-args.length) (.aK [])) [] [] (λr=>∃p1 σ1,vL P 0 fn r=some (p1,σ1)/\p1.strip=p)):aI P E f args p:=by
 exact qv
end
theorem wrap_i64{x:Int}(h:-9223372036854775808<=x)(h':x<=9223372036854775807):IntKind.i64.wrap x=x:=by
 exact ig
theorem wrap_u64{x:Int}(h:0<=x)(h':x<=18446744073709551615):IntKind.u64.wrap x=x:=by
 exact ig
theorem wrap_u8{x:Int}(h:0<=x)(h':x<=255):IntKind.u8.wrap x=x:=by
 exact ig
end
section
attribute [simp] dM mB flags Region.wanted aY bI dI pop dD j8 aT aL iX J6 ofValue HP CN cI PD.cells cN rE Q3
attribute [simp] PD.plain PD.setCells iM QY fA vL NV oI CO LV LU QZ Q4 HQ VJ NW
attribute [simp] PD.strip PD.kP Q0 pC VG VF NX
@[simp] theorem LW{α:Type}{e:Em α}{xs:List α}:PD.kP (xs.map e.aA)=xs.map e.aA:=by
  rw[PD.LW,yBo];exact yAG λx _=>e.str x
@[simp] theorem aZO{α:Type}{e:Em α}{k:Nat}{xs:List α}{tok:Tok}:(PD.slice k (xs.map e.aA) tok).strip=.slice (sz k xs) (xs.map e.aA) .any:=by
  cases xs with
  |nil=>simp[PD.strip,sz]
  |cons x xs=>simp[PD.strip,sz,e.str]
section
variable{P:Program}{t:TypeId}{k k':IntKind}{a b:Int}{op:BinOp}
@[simp] theorem aZP:dZ P .add t (.int k a) (.int k' b)=if k=k' then fQ .add k a b else none:=rfl
@[simp] theorem aZQ:dZ P .sub t (.int k a) (.int k' b)=if k=k' then fQ .sub k a b else none:=rfl
@[simp] theorem aZR:dZ P .mul t (.int k a) (.int k' b)=if k=k' then fQ .mul k a b else none:=rfl
@[simp] theorem aZS:dZ P .quo t (.int k a) (.int k' b)=if k=k' then fQ .quo k a b else none:=rfl
@[simp] theorem aZT:dZ P .rem t (.int k a) (.int k' b)=if k=k' then fQ .rem k a b else none:=rfl
@[simp] theorem aZU:dZ P .eql t (.int k a) (.int k' b)=if k=k' then fQ .eql k a b else none:=rfl
@[simp] theorem aZV:dZ P .neq t (.int k a) (.int k' b)=if k=k' then fQ .neq k a b else none:=rfl
@[simp] theorem aZW:dZ P .lss t (.int k a) (.int k' b)=if k=k' then fQ .lss k a b else none:=rfl
@[simp] theorem aZX:dZ P .leq t (.int k a) (.int k' b)=if k=k' then fQ .leq k a b else none:=rfl
@[simp] theorem aZY:dZ P .gtr t (.int k a) (.int k' b)=if k=k' then fQ .gtr k a b else none:=rfl
@[simp] theorem aZZ:dZ P .geq t (.int k a) (.int k' b)=if k=k' then fQ .geq k a b else none:=rfl
@[simp] theorem aZ0:dZ P .and t (.int k a) (.int k' b)=if k=k' then fQ .and k a b else none:=rfl
@[simp] theorem aZ1:dZ P .or t (.int k a) (.int k' b)=if k=k' then fQ .or k a b else none:=rfl
@[simp] theorem aZ2:dZ P .xor t (.int k a) (.int k' b)=if k=k' then fQ .xor k a b else none:=rfl
@[simp] theorem aZ3:dZ P .andNot t (.int k a) (.int k' b)=if k=k' then fQ .andNot k a b else none:=rfl
@[simp] theorem aZ4:dZ P .shl t (.int k a) (.int k' b)=VK .shl k a b:=rfl
@[simp] theorem aZ5:dZ P .shr t (.int k a) (.int k' b)=VK .shr k a b:=rfl
@[simp] theorem aZ6{x y:Bx}:dZ P op t (.str x) (.str y)=VJ op x y:=rfl
theorem aOD{x y:PD}{c:Bool}(h1:∀k a k' b,¬(x=.int k a/\y=.int k' b))(h2:∀a b,¬(x=.str a/\y=.str b))(h:lC P 12 t x y=some c)(h3:∀xs ys,¬(x=.agg xs/\y=.agg ys)):dZ P .neq t x y=some (.bool (!c)):=by
 unfold dZ rF;split
 .exact absurd ⟨rfl,rfl⟩ (h1 _ _ _ _)
 .exact absurd ⟨rfl,rfl⟩ (h2 _ _)
 .simp only;split
  .rename_i b hb;split at hb
   .exact absurd ⟨rfl,rfl⟩ (h3 _ _)
   .rw[h]at hb;rw[yBr hb]
  .rename_i hb;split at hb
   .exact absurd ⟨rfl,rfl⟩ (h3 _ _)
   .rw[h]at hb;cases hb
@[simp] theorem aZ7{x y:Bool}(hu:P.underlying t=some .bool):dZ P .neq t (.bool x) (.bool y)=some (.bool (!decide (x=y))):=
  aOD wz wz (by unfold lC;simp only[hu];cases x<;>cases y<;>rfl) wz
section
variable{e:TypeId}{i o:Nat}{cs:Bw}
end
end
section
variable{k:IntKind}{x y:Int}
@[simp] theorem aZ8:fQ .add k x y=some (.int k (k.wrap (x+y))):=rfl
@[simp] theorem aZ9:fQ .sub k x y=some (.int k (k.wrap (x-y))):=rfl
@[simp] theorem a0a:fQ .mul k x y=some (.int k (k.wrap (x*y))):=rfl
@[simp] theorem a0b:fQ .quo k x y=if y=0 then none else some (.int k (k.wrap (x.tdiv y))):=rfl
@[simp] theorem a0c:fQ .rem k x y=if y=0 then none else some (.int k (x.tmod y)):=rfl
@[simp] theorem a0d:fQ .eql k x y=some (.bool (decide (x=y))):=rfl
@[simp] theorem a0e:fQ .neq k x y=some (.bool (!decide (x=y))):=rfl
@[simp] theorem a0f:fQ .lss k x y=some (.bool (decide (x<y))):=rfl
@[simp] theorem a0g:fQ .leq k x y=some (.bool (decide (x<=y))):=rfl
@[simp] theorem a0h:fQ .gtr k x y=some (.bool (decide (x > y))):=rfl
@[simp] theorem a0i:fQ .geq k x y=some (.bool (decide (x >= y))):=rfl
@[simp] theorem a0j:fQ .and k x y=(match LX .and k x y with|some z=>some (.int k z)|none=>none):=rfl
@[simp] theorem a0k:fQ .or k x y=(match LX .or k x y with|some z=>some (.int k z)|none=>none):=rfl
@[simp] theorem a0l:fQ .xor k x y=(match LX .xor k x y with|some z=>some (.int k z)|none=>none):=rfl
@[simp] theorem a0m:fQ .andNot k x y=(match LX .andNot k x y with|some z=>some (.int k z)|none=>none):=rfl
end
section
variable{P:Program}{fl:Nat}{fr:Bw}{σ:Bv}
@[simp] theorem a0n{t:TypeId}{x:Operand}:cK P fl fr σ (.load t x)=(match aT fr x with
  |some a=>(match j8 P σ t a with|some p=>some (p,σ)|none=>none)
  |none=>none):=rfl
@[simp] theorem a0o{t:TypeId}{x y:Operand}:cK P fl fr σ (.store t x y)=(match aT fr x,aT fr y with
  |some a,some p=>(match pC P fl σ t a p with|some σ'=>some (.aK [],σ')|none=>none)
  |_,_=>none):=rfl
@[simp] theorem a0p{t:TypeId}{x:Operand}:cK P fl fr σ (.box t x)=(match aT fr x with
  |some p=>if p.cells.all PD.plain then some (.ptr σ.length 0,σ++[.box (mE t p)])else none
  |none=>none):=rfl
@[simp] theorem a0q{t:TypeId}{cs:Bw}:mE t (.agg cs)=if EN t=true then .typed t cs else .agg cs:=rfl
@[simp] theorem a0r{t:TypeId}{k:IntKind}{n:Int}:mE t (.int k n)=.int k n:=rfl
@[simp] theorem a0s{t:TypeId}{b:Bool}:mE t (.bool b)=.bool b:=rfl
@[simp] theorem a0t{t:TypeId}{s:Bx}:mE t (.str s)=.str s:=rfl
@[simp] theorem a0u{t:TypeId}{n:Nat}{xs:Bw}{tok:Tok}:mE t (.slice n xs tok)=.slice n xs tok:=rfl
@[simp] theorem a0v{t:TypeId}{i o:Nat}:mE t (.ptr i o)=.ptr i o:=rfl
@[simp] theorem a0w{t:TypeId}:mE t .dJ=.dJ:=rfl
@[simp] theorem a0x{t:TypeId}{f:FuncId}{cs:Bw}:mE t (.func f cs)=.func f cs:=rfl
@[simp] theorem a0y{t:TypeId}:mE t .kF=.kF:=rfl
@[simp] theorem a0z{t:TypeId}{v:Value}:mE t (.bL v)=.bL v:=rfl
@[simp] theorem a0A{t:TypeId}{cs:Bw}:boxed t (.agg cs)=if EN t=true then .typed t (cs.map EP)else .agg cs:=rfl
@[simp] theorem a0B:EP (.slice 0 [] .full)=.slice 0 [] .nil:=rfl
@[simp] theorem a0C:EP .dJ=.dJ:=rfl
@[simp] theorem a0D{k:IntKind}{n:Int}:EP (.int k n)=.int k n:=rfl
@[simp] theorem a0E{s:Bx}:EP (.str s)=.str s:=rfl
@[simp] theorem a0F{t:TypeId}{k:IntKind}{n:Int}:boxed t (.int k n)=.int k n:=rfl
@[simp] theorem a0G{t:TypeId}{b:Bool}:boxed t (.bool b)=.bool b:=rfl
@[simp] theorem a0H{t:TypeId}{s:Bx}:boxed t (.str s)=.str s:=rfl
@[simp] theorem a0I{t:TypeId}{n:Nat}{xs:Bw}{tok:Tok}:boxed t (.slice n xs tok)=.slice n xs tok:=rfl
@[simp] theorem a0J{t:TypeId}:boxed t .dJ=.dJ:=rfl
@[simp] theorem a0K{t:TypeId}:boxed t .kF=.kF:=rfl
@[simp] theorem a0L{t:TypeId}{v:Value}:boxed t (.bL v)=.bL v:=rfl
@[simp] theorem a0M{t:TypeId}:cK P fl fr σ (.alloc t)=(match dS P t with
  |some p=>if p.cells.all PD.plain then some (.ptr σ.length 0,σ++[.box (boxed t p)])else none
  |none=>none):=rfl
@[simp] theorem a0N{t:TypeId}{len:Nat}{parts:Array (Nat×Operand)}:cK P fl fr σ (.buildSlice t len parts)=(match rE fr parts.toList with
  |some ps=>(match HN P t len (ps.map λq=>(q.1,q.2.strip))with|some p=>some (p,σ)|none=>none)
  |none=>none):=rfl
@[simp] theorem a0O{args:Array Operand}{ts:Array TypeId}:cK P fl fr σ (.call { callee:=.builtin .append,args:=args,argTypes:=ts })=(match iX fr args.toList,ts.toList with
  |some [s,x],[t,t']=>if t=t' then(match mD P fr.length fl σ t s x with|some r=>some r|none=>dV P fl σ t s x.strip)else(match P.underlying t',x with
   |some .string,.str l=>if vM P t=true then(match mD P fr.length fl σ t s (.slice (if l.length=0 then 0 else 1) (l.map λb=>.int .u8 b.toNat) .any)with|some r=>some r|none=>dV P fl σ t s (.slice (if l.length=0 then 0 else 1) (l.map λb=>.int .u8 b.toNat) .any))else none
   |some (.int .i64),.int .i64 m=>LY P fr.length σ t s m
   |_,_=>none)
  |_,_=>none):=rfl
def VL(n:Nat):PD->Int->Option PD
 |.slice size xs _,i=>if 0<=i then(if (xs.length=0\/n=size)/\0<n then(match xs[i.toNat]? with|some p=>some (.cP p.cells 0)|none=>none)else none)else none
 |.fR id off m size,i=>if 0<=i then(if n=size/\i.toNat<m then some (.ptr id (off+i.toNat*n))else none)else none
 |.fF id ver off m size,i=>if 0<=i then(if n=size/\i.toNat<m then some (.gO id ver (off+i.toNat*n))else none)else none
 |_,_=>none
def VM(len n:Nat)(x:PD)(i:Int):Option PD:=
 if 0<=i then(if i.toNat<len then(match x with
  |.ptr id off=>some (.ptr id (off+i.toNat*n))
  |.cP cs off=>some (.cP cs (off+i.toNat*n))
  |.gO id ver off=>some (.gO id ver (off+i.toNat*n))
  |_=>none)else none)else none
@[simp] theorem a0P{t:TypeId}{x:PD}{k:IntKind}{i:Int}:NP P t x (.int k i)=(match P.underlying t with
  |some (.array len e)=>(match bS P e with|some n=>VM len n x i|none=>none)
  |some (.slice e)=>(match bS P e with|some n=>VL n x i|none=>none)
  |_=>none):=by
  unfold NP
  by_cases h0:0<=i
  .cases hu:P.underlying t with
   |none=>simp[h0]
   |some d=>
    cases d<;>simp only[fZ,h0,yAM,VM]<;>try rfl
    rename_i e;cases bS P e<;>cases x<;>simp only[VL,h0,yAM]<;>rfl
  .cases hu:P.underlying t with
   |none=>simp[h0]
   |some d=>
    cases d<;>simp only[fZ,h0,yAN,VM]<;>try rfl
    all_goals (rename_i e;cases bS P e<;>cases x<;>simp only[VL,h0,yAN])
@[simp] theorem a0Q{n size:Nat}{xs:Bw}{tok:Tok}{i:Int}(h0:0<=i)(hn0:0<n)(hs:xs=[]\/n=size)(hi:i.toNat<xs.length):VL n (.slice size xs tok) i=some (.cP xs[i.toNat].cells 0):=by
  have hx:xs.length=0\/n=size:=hs.imp (λh=>ya) (λh=>h);simp only[VL,h0,hx,hn0,and_self,yAM,yAh hi]
@[simp] theorem a0R{len n id off:Nat}{i:Int}(h0:0<=i)(hi:i.toNat<len):VM len n (.ptr id off) i=some (.ptr id (off+i.toNat*n)):=by
  unfold VM;rw[yAJ h0,yAJ hi]
def aAd(s:List UInt8)(i:Int):Option PD:=if 0<=i then(match s[i.toNat]? with|some b=>some (.int .u8 b.toNat)|none=>none)else none
@[simp] theorem a0S{s:Bx}{i:Int}(h0:0<=i)(hi:i.toNat<s.length):aAd s i=some (.int .u8 s[i.toNat].toNat):=by
  unfold aAd;rw[yAJ h0,yAh hi]
@[simp] theorem a0T{t:TypeId}{s:Bx}{k:IntKind}{i:Int}:J5 P t (.str s) (.int k i)=(match P.underlying t with
  |some .string=>aAd s i
  |_=>none):=by
  unfold J5 aAd
  by_cases h0:0<=i
  .cases hu:P.underlying t with
   |none=>simp[h0]
   |some d=>cases d<;>simp only[fZ,h0,yAM]<;>rfl
  .cases hu:P.underlying t with
   |none=>simp[h0]
   |some d=>cases d<;>simp only[fZ,h0,yAN]<;>try rfl
@[simp] theorem a0U{t:TypeId}{cs:Bw}{k:IntKind}{i:Int}:J5 P t (.agg cs) (.int k i)=(match P.underlying t with
  |some (.array len e)=>(match bS P e with
   |some n=>if 0<=i then(if i.toNat<len then mC P e cs (i.toNat*n)else none)else none
   |none=>none)
  |_=>none):=by
  unfold J5
  by_cases h0:0<=i
  .cases hu:P.underlying t with
   |none=>simp[fZ,h0]
   |some d=>cases d<;>simp only[fZ,h0,yAM]<;>rfl
  .cases hu:P.underlying t with
   |none=>simp[fZ,h0]
   |some d=>
    cases d<;>simp only[fZ,h0,yAN]<;>try rfl
    cases bS P _<;>rfl
@[simp] theorem a0V{k:IntKind}{i:Int}(h:0<=i):fZ (some (.int k i))=some i.toNat:=by simp only[fZ,h,yAM]
def LZ(n l h:Nat):Option (Nat×Nat):=if l<=h/\h<=n then some (l,h)else none
@[simp] theorem a0W{n l h:Nat}(h1:l<=h)(h2:h<=n):LZ n l h=some (l,h):=by simp[LZ,h1,h2]
@[simp] theorem a0X{n:Nat}{x:Option PD}:mU n (some x) none=(match fZ x with|some l=>LZ n l n|none=>none):=by
  simp only[mU,LZ];cases fZ x<;>rfl
@[simp] theorem a0Y{n:Nat}{x:Option PD}:mU n none (some x)=(match fZ x with|some h=>LZ n 0 h|none=>none):=by
  simp only[mU,LZ];cases fZ x<;>rfl
@[simp] theorem a0Z{n:Nat}{x y:Option PD}:mU n (some x) (some y)=(match fZ y,fZ x with|some h,some l=>LZ n l h|_,_=>none):=by
  simp only[mU,LZ];cases fZ x<;>cases fZ y<;>rfl
def aAe(n size:Nat)(xs:List PD)(tok:Tok)(lh:Option (Nat×Nat)):Option PD:=
 match lh with
 |some (l,h)=>if xs.length=0\/n=size then some (.slice size ((xs.drop l).take (h-l))
      (if h=xs.length then(match tok with|.full=>.full|.own id=>if l=0 then .own id else .any|_=>.any)else .any))else none
 |none=>none
def aCO(s:List UInt8)(lh:Option (Nat×Nat)):Option PD:=
 match lh with
 |some (l,h)=>some (.str ((s.drop l).take (h-l)))
 |none=>none
@[simp] theorem a00{n size l h:Nat}{xs:Bw}(hs:xs=[]\/n=size):aAe n size xs .any (some (l,h))=some (.slice size ((xs.drop l).take (h-l)) .any):=by
  have hx:xs.length=0\/n=size:=hs.imp (λh=>ya) (λh=>h);simp only[aAe,hx,yAM,ite_self]
@[simp] theorem a01{s:Bx}{l h:Nat}:aCO s (some (l,h))=some (.str ((s.drop l).take (h-l))):=rfl
@[simp] theorem a02{t:TypeId}{s:Bx}{lo hi:Option (Option PD)}:J4 P t (.str s) lo hi none=(match P.underlying t with
  |some .string=>aCO s (mU s.length lo hi)
  |_=>none):=by
  unfold J4 aCO;cases hu:P.underlying t with
  |none=>rfl
  |some d=>cases d<;>simp only[Option.isSome_none,yAx,yAN]<;>rfl
@[simp] theorem a03{t:TypeId}{size:Nat}{xs:Bw}{tok:Tok}{lo hi:Option (Option PD)}:J4 P t (.slice size xs tok) lo hi none=(match P.underlying t with
  |some (.slice e)=>(match bS P e with|some n=>aAe n size xs tok (mU xs.length lo hi)|none=>none)
  |_=>none):=by
  unfold J4 aAe;cases hu:P.underlying t with
  |none=>rfl
  |some d=>
   cases d<;>simp only<;>try rfl
   cases bS P _<;>simp only
   cases mU xs.length lo hi<;>simp only
   split<;>rfl
end
section
variable{α:Type}
def aOE(id n:Nat):Tok:=if n=0 then .full else .own id
@[simp] theorem a04{id:Nat}:aOE id 0=.full:=rfl
def J0(P:Program)(e:TypeId):Option (Nat×Nat):=match P.info? e with
 |some i=>match i.zero with
  |some z=>if z.cells.size=i.size/\0<i.size then some (i.size,i.bytes)else none
  |none=>none
 |none=>none
attribute [simp] mC
def aOF(P:Program)(e:TypeId)(k n:Nat):Prop:=match J0 P e with
 |some (k',b)=>k'=k/\n*b<=140737488355328
 |none=>False
attribute [simp] aOF
attribute [simp] HN
end
end
section
section
variable{P:Program}{E:aE}{rd:Option Nat}{fl:Nat}{fr:Bw}{ms:List Nat}{σ:Bv}{Q:PO->Prop}{ops:Cb}
structure cH (P:Program) (E:aE) (fl:Nat) (f:FuncId ⊕ Nat) (args:List PD) (σ:List U) (R:PD->List U->Prop):Prop where
 ex:∃p σ',lM P E fl f args σ p σ'/\R p σ'
structure WpO (P:Program) (E:aE) (fl:Nat) (ops:Array Oper) (l:List (Bool×Oper)) (fr:List PD) (σ:List U) (R:List PD->List U->Prop):Prop where
 ex:∃N fr' σ',(∀n,N<=n->mB P (bV P E n) fl ops l fr σ=some (fr',σ'))/\R fr' σ'
inductive NT (P:Program) (E:aE) (fl id:Nat) (K:List U->Prop):List (List PD)->List U->List U->Prop
 |nil {σ:Bv}:K σ->NT P E fl id K [] σ σ
 |more {a:Bw} {rest:List (List PD)} {σ σ1 σ2:Bv}:K σ->lM P E fl (.inr id) a σ (.bool true) σ1->NT P E fl id K rest σ1 σ2->NT P E fl id K (a::rest) σ σ2
 |stop {a:Bw} {rest:List (List PD)} {σ σ1:Bv}:K σ->lM P E fl (.inr id) a σ (.bool false) σ1->NT P E fl id K (a::rest) σ σ1
structure aCK (P:Program) (E:aE) (fl id:Nat) (K:List U->Prop) (items:List (List PD)) (σ:List U) (R:List U->Prop):Prop where
 ex:∃σ2,NT P E fl id K items σ σ2/\R σ2
theorem cH.body{f:FuncId}{fn:Func}{c:Code}{args:Bw}{R:PD->List U->Prop}(hE:E f=none)(hf:P.funcs[f]?=some fn)(hb:fn.body=some c)
  (h:Wp P E none c fl (args++List.replicate (fn.ntmps-args.length) (.aK [])) [] σ (λr=>∃p1 σ1,vL P fl fn r=some (p1,σ1)/\R p1 σ1)):cH P E fl (.inl f) args σ R:=by
 exact qv
end
def aAa(ops:Array Oper):Bool:=(flags ops 0 ops.toList).all λx=>x.1
theorem aCN{P:Program}{call:cO}{fl:Nat}{ops:Cb}:∀(l:List (Bool×Oper)) (fr:List PD) (σ:List U),l.all (λx=>x.1)=true->mB P call fl ops l fr σ=dM P call fl ops (l.map Prod.snd) fr σ
 | [],_,_,_=>rfl
 |(free,o)::l,fr,σ,h=>by
  simp only[yBG,yAr]at h;obtain⟨h1,h2⟩:=h;subst h1;simp only[dM,mB,yB];split
  .cases bI P call fl fr σ o.op with
   |none=>rfl
   |some q=>obtain⟨p,σ'⟩:=q;simp only;exact aCN l _ _ h2
  .exact aCN l _ _ h2
theorem aHg(ops:Array Oper):∀(l:List Oper) (i:Nat),(flags ops i l).map Prod.snd=l
 | [],_=>rfl
 |o::l,i=>by simp only[flags,yB,aHg ops l (i+1)]
theorem aOA{P:Program}{call:cO}{fl:Nat}{ops:Cb}(hs:(Q2 ops&&aAa ops)=true)(fr:List PD)(σ:List U):mA P call fl ops fr σ=dM P call fl ops ops.toList fr σ:=by
 simp only[yAr]at hs;rw[aHh hs.1,aCN _ _ _ hs.2,aHg]
def aF(E:aE):Prop:=∀f g args p,E f=some g->g 0 args []=some (p,[])->∀fl σ,g fl args σ=some (p,σ)
def eU(E:aE):cO
 |_,.inl f,args,σ=>match E f with
  |some g=>match g 0 args []with
   |some (p,[])=>some (p,σ)
   |_=>none
  |none=>none
 |_,.inr _,_,_=>none
def HM(ops:Array Oper):Bool:=ops.toList.all λo=>match o.op with
 |.box ..=>false
 |.call { callee:=.builtin .append,.. }=>false
 |.call { callee:=.builtin .copy,.. }=>false
 |_=>true
theorem NL{P:Program}{E:aE}(hU:aF E){fl bU:Nat}{fr:Bw}{σ:Bv}{op:Op}{x:PD×Bv}(hop:(match op with
 |.box ..=>false
 |.call { callee:=.builtin .append,.. }=>false
 |.call { callee:=.builtin .copy,.. }=>false
 |_=>true)=true) (hm:cI op=true) (h:bI P (eU E) fl fr σ op=some x):bI P (cN E) bU fr σ op=some x/\x.2=σ:=by
 unfold bI at *;cases hc:dI fr op with
 |some q=>
  obtain⟨tg,args⟩:=q;simp only[hc]at h ⊢;cases tg with
  |inr id=>cases h
  |inl f=>
   simp only[eU]at h;split at h
   .rename_i g hg;split at h
    .rename_i p hp;simp only[yAb]at h;subst h;simp only[cN,hg];exact⟨hU f g args p hg hp bU σ,by trivial⟩
    .cases h
   .cases h
 |none=>
  exact cu
theorem aG5{P:Program}{call call':cO}{fl:Nat}{fr:Bw}{σ:Bv}{op:Op}(hm:cI op=false):bI P call fl fr σ op=bI P call' fl fr σ op:=by
 unfold bI;have:dI fr op=none:=by
  cases op with
  |call c=>
   obtain⟨callee,args,ts⟩:=c;cases callee with
   |value f=>simp[cI]at hm
   |invoke r m=>rfl
   |builtin b=>rfl
  |_=>rfl
 rw[this]
theorem VH{P:Program}{E:aE}(hU:aF E){fl:Nat}{ops:Cb}:∀(l:List Oper) (i:Nat) (fr:List PD) (σ:List U) (x:Bw×List U),l.all (λo=>match o.op with
 |.box ..=>false
 |.call { callee:=.builtin .append,.. }=>false
 |.call { callee:=.builtin .copy,.. }=>false
 |_=>true)=true->dM P (eU E) fl ops l fr σ=some x->mB P (cN E) fl ops (flags ops i l) fr σ=some x
 | [],_,_,_,_,_,h=>h
 |o::l,i,fr,σ,x,ho,h=>by
  simp only[yBG,yAr]at ho;simp only[dM]at h;simp only[flags,mB];split at h
  .rename_i hw;rw[yAJ hw];split at h
   .rename_i p σ1 hp;cases hm:cI o.op with
    |false=>
     rw[aG5 (call':=cN E) hm]at hp;simp only[yBR,yCL,hp];exact lf
    |true=>
     cases CI ops i with
     |true=>
      have:=(NL hU (bU:=fl) ho.1 hm hp).1;simp only[Bool.or_true,this];exact lf
     |false=>
      obtain⟨e1,e2⟩:=NL hU (bU:=max fl σ.length) ho.1 hm hp;simp only at e2;subst e2;simp only[yBw,Bool.or_self,e1,yCh,yAl];exact lf
   .cases h
  .rename_i hw;rw[yAI hw];exact lf
theorem aF.entry{E:aE}(hU:aF E){f:FuncId}{g:List PD->Option PD}:aF (E.add f (entry g)):=by
 intro f' g' args p hE h fl σ;rw[aE.tI]at hE;split at hE
 .simp only[yAb]at hE;subst hE;unfold Go.Kz.entry at h ⊢;cases hg:g args with
  |none=>simp only[hg]at h;cases h
  |some q=>
   simp only[hg,yAb,yAc,yAW]at h;subst h;rfl
 .exact hU f' g' args p hE h fl σ
theorem aF.none:aF .nil:=λ_ _ _ _ h=>xz
theorem aF.other{E:aE}(hU:aF E){f:FuncId}{g:Bq}(hg:∀args p,g 0 args []≠some (p,[])):aF (E.add f g):=by
 intro f' g' args p hE h fl σ;rw[aE.tI]at hE;split at hE
 .simp only[yAb]at hE;subst hE;exact absurd h (hg _ _)
 .exact hU f' g' args p hE h fl σ
def force{α:Type}(n:Nat)(f:Nat->α):α:=match n with|0=>f 0|k+1=>f (k+1)
theorem force_eq{α:Type}(n:Nat)(f:Nat->α):force n f=f n:=by cases n<;>rfl
def aAb{α:Type}:List Nat->Nat->(List Nat->α)->α
 | [],m,f=>f [m]
 |x::xs,m,f=>aAb xs m λys=>f (x::ys)
theorem aHi{α:Type}:∀(l:List Nat) (m:Nat) (f:List Nat->α),aAb l m f=f (l++[m])
 | [],_,_=>rfl
 |x::xs,m,f=>by rw[aAb,aHi xs];rfl
def tJ{α:Type}:List Oper->List Nat->(List Nat->α)->α
 | [],acc,f=>f acc
 |o::r,acc,f=>force (HO acc o) λm=>aAb acc m λacc'=>tJ r acc' f
theorem nP{α:Type}:∀(l:List Oper) (acc:List Nat) (f:List Nat->α),tJ l acc f=f (cA l acc)
 | [],_,_=>rfl
 |o::r,acc,f=>by rw[tJ,force_eq,aHi,nP r];rfl
def vJ(ops:Array Oper):Bool:=tJ ops.toList [] λms=>
 JX ops ms&&ops.toList.all (λo=>!bZ o.op) &&
 (List.range ops.size).all λk=>!eN eO ops.toList k||(List.range ops.size).all λi=>!eN dA ops.toList i||!loose ms i k
theorem QV(ops:Array Oper):vJ ops=Q2 ops:=by rw[vJ,nP];rfl
def VE(ops:Array Oper):Bool:=tJ ops.toList [] λms=>
 (List.range ops.size).all λi=>!eN cI ops.toList i||j9 ops.toList ms i
theorem aOB{ops:Cb}(h:VE ops=true):aAa ops=true:=by
 rw[VE,nP]at h;simp only[yAn,yAZ,yBf,yBm]at h;unfold aAa;have key:∀(l:List Oper) (i:Nat),ops.toList.drop i=l->(flags ops i l).all (λx=>x.1)=true:=by
  intro l
  induction l with
  |nil=>intro _ _;rfl
  |cons o r ih=>
   intro i hd;have ho:ops.toList[i]?=some o:=by
    exact uj
   have hd':ops.toList.drop (i+1)=r:=Be;have hi:i<ops.size:=by
    have:=(yA.1 ho).1;exact bn
   simp only[flags,yBG,yAr,yBf,yBm];refine⟨?_,ih (i+1) hd'⟩;have:=h i hi;rw[eN,ho]at this;simpa [CI]using this
 exact key _ 0 wz
theorem aOC{ops:Cb}(h:(vJ ops&&VE ops)=true):(Q2 ops&&aAa ops)=true:=by
 simp only[yAr,QV]at h ⊢;exact⟨h.1,aOB h.2⟩
section
variable{P:Program}{E:aE}{rd:Option Nat}{fl:Nat}{fr:Bw}{ms:List Nat}{σ:Bv}{Q:PO->Prop}{ops:Cb}
theorem Wp.jG{id:Nat}{aG:Bw}{σ1:Bv}(hs:(vJ ops&&VE ops)=true)(h:dM P (cN E) fl ops ops.toList fr σ=some (aG,σ1))(k:Q ⟨.normal,aG,ms,σ1⟩):Wp P E rd (.region id ops true) fl fr ms σ Q:=
 ⟨_,.draw (N:=0) (λ_ _=>by rw[aOA (aOC hs)];exact aAc h),k⟩
theorem Wp.dW{id:Nat}{aG:Bw}{σ1:Bv}(hU:aF E)(hs:(vJ ops&&HM ops)=true)(h:dM P (eU E) fl ops ops.toList fr σ=some (aG,σ1))(k:Q ⟨.normal,aG,ms,σ1⟩):Wp P E rd (.region id ops true) fl fr ms σ Q:=by
 simp only[yAr,QV]at hs;exact .draw hs.1 (VH hU _ 0 _ _ _ hs.2 h) k
end
attribute [simp] VI NU eU
end
section
def tn{n:Nat}(b:BitVec n):Int:=(b.toNat:Int)
def Em.aOy:Em (BitVec 64):=(Em.int .u64).mF tn (λ_ _ h=>yDB Ap)
def Em.aOz:Em (BitVec 16):=(Em.int .u16).mF tn (λ_ _ h=>yDB Ap)
def Em.bv8:Em (BitVec 8):=(Em.int .u8).mF tn (λ_ _ h=>yDB Ap)
@[simp] theorem aZL{b:BitVec 64}:Em.aOy.aA b=.int .u64 (tn b):=rfl
@[simp] theorem aZM{b:BitVec 16}:Em.aOz.aA b=.int .u16 (tn b):=rfl
@[simp] theorem aZN{b:BitVec 8}:Em.bv8.aA b=.int .u8 (tn b):=rfl
section
variable{a b:BitVec 64}
end
@[simp] theorem wrap_zero(k:IntKind):k.wrap 0=0:=by cases k<;>rfl
end
section
structure SQ (P:Program) (call:cO) (fl:Nat) (ops:Array Oper) (l:List Oper) (fr:List PD) (σ:List U) (K:List PD->List U->Prop):Prop where
 ex:∃fr' σ',dM P call fl ops l fr σ=some (fr',σ')/\K fr' σ'
def lk:List PD->Nat->Option PD
 | [],_=>none
 |x::_,0=>some x
 |_::xs,n+1=>lk xs n
def bG(fr:List PD):Operand->Option PD
 |.tmp t=>lk fr t
 |.const v=>ofValue v
 |.func f=>some (.func f [])
 |.global g=>match JT g with
   |some ds=>some (.cP ds 0)
   |none=>none
def CM(fr:List PD):List Operand->Option (List PD)
 | []=>some []
 |x::xs=>match bG fr x,CM fr xs with
  |some p,some ps=>some (p::ps)
  |_,_=>none
def NQ(fr:List PD):List (Nat×Operand)->Option (List (Nat×PD))
 | []=>some []
 |(i,x)::r=>match bG fr x,NQ fr r with
  |some p,some ps=>some ((i,p)::ps)
  |_,_=>none
def J3(fr:List PD):Option Operand->Option (Option (Option PD))
 |none=>some none
 |some x=>match bG fr x with
  |some p=>some (some (some p))
  |none=>none
theorem Z9:∀(fr:List PD) (t:Nat),lk fr t=fr[t]?
 | [],_=>by simp[lk]
 |_::_,0=>by simp[lk]
 |_::xs,n+1=>by simp[lk,Z9 xs n]
theorem cJ{fr:Bw}{x:Operand}{p:PD}(h:bG fr x=some p):aT fr x=some p:=by
 cases x with
 |tmp t=>
  simp only[bG,Z9]at h;simp only[aT,yAA,h,yBY]
 |_=>exact h
theorem J7{fr:Bw}:∀ {xs:List Operand} {ps:Bw},CM fr xs=some ps->iX fr xs=some ps
 | [],_,h=>h
 |x::xs,ps,h=>by
  simp only[CM]at h;split at h
  .rename_i p qs h1 h2;simp only[iX,cJ h1,J7 h2];exact h
  .cases h
theorem aCL{fr:Bw}:∀ {xs:List (Nat×Operand)} {ps:List (Nat×PD)},NQ fr xs=some ps->rE fr xs=some ps
 | [],_,h=>h
 |(i,x)::xs,ps,h=>by
  simp only[NQ]at h;split at h
  .rename_i p qs h1 h2;simp only[rE,cJ h1,aCL h2];exact h
  .cases h
theorem aCM{fr:Bw}{x:Option Operand}{p:Option (Option PD)}(h:J3 fr x=some p):x.map (aT fr)=p:=by
 cases x with
 |none=>simpa [J3]using h
 |some x=>
  simp only[J3]at h;split at h
  .rename_i q hq;simp only[yAb]at h;subst h;show some (aT fr x)=_
   rw[cJ hq]
  .cases h
section
variable{P:Program}{E:aE}{call:cO}{rd:Option Nat}{fl:Nat}{fr aG:Bw}{ms:List Nat}{σ σ1:Bv}{Q:PO->Prop}{ops:Cb}{K:List PD->List U->Prop}{l:List Oper}{dst:Option Tmp}
 {ty:TypeId} {pos:String} {edges:Array Edge} {guard:Option (Nat×Bool)} {t:TypeId} {x y:Operand} {p q r:PD}
theorem SQ.nil(h:K fr σ):SQ P call fl ops [] fr σ K:=⟨fr,σ,rfl,h⟩
theorem SQ.step{o:Oper}(hw:Region.wanted o (aY ops fr)=true)(h:bI P call fl fr σ o.op=some (p,σ1))(k:SQ P call fl ops l (aL fr o.dst p) σ1 K):SQ P call fl ops (o::l) fr σ K:=by
 obtain⟨fr',σ',h1,h2⟩:=k.ex;exact⟨fr',σ',by simp only[dM,hw,yAM,h,h1],h2⟩
theorem SQ.pass{o:Oper}(hw:Region.wanted o (aY ops fr)=false)(hf:aL fr o.dst (.aK [])=aG)(k:SQ P call fl ops l aG σ K):SQ P call fl ops (o::l) fr σ K:=by
 subst hf;obtain⟨fr',σ',h1,h2⟩:=k.ex;exact⟨fr',σ',by simp only[dM,hw,yAx,yAN,h1],h2⟩
theorem pF{op:Op}(hc:dI fr op=none)(h:dD P fr op=some p):bI P call fl fr σ op=some (p,σ):=by
 unfold bI pop;rw[hc,h]
theorem EO{op:Op}(hc:dI fr op=none)(hv:dD P fr op=none)(h:cK P fl fr σ op=some (p,σ1)):bI P call fl fr σ op=some (p,σ1):=by
 unfold bI pop;rw[hc];simp only[hv];exact h
theorem SQ.move(hw:Region.wanted ⟨dst,.move x,ty,pos,edges,guard⟩ (aY ops fr)=true)(hx:bG fr x=some p)(hf:aL fr dst p=aG)(k:SQ P call fl ops l aG σ K):SQ P call fl ops (⟨dst,.move x,ty,pos,edges,guard⟩::l) fr σ K:=
 .step hw (pF rfl (cJ hx)) (hf▸k)
theorem SQ.assign(hw:Region.wanted ⟨dst,.assign x,ty,pos,edges,guard⟩ (aY ops fr)=true)(hx:bG fr x=some p)(hf:aL fr dst p=aG)(k:SQ P call fl ops l aG σ K):SQ P call fl ops (⟨dst,.assign x,ty,pos,edges,guard⟩::l) fr σ K:=
 .step hw (pF rfl (cJ hx)) (hf▸k)
theorem SQ.pick{c:Operand}{b:Bool}(hw:Region.wanted ⟨dst,.pick c x y,ty,pos,edges,guard⟩ (aY ops fr)=true)(hc:bG fr c=some (.bool b))(hx:cond b (bG fr x) (bG fr y)=some p)(hf:aL fr dst p=aG)(k:SQ P call fl ops l aG σ K) :
  SQ P call fl ops (⟨dst,.pick c x y,ty,pos,edges,guard⟩::l) fr σ K:=
 .step hw (pF rfl (by simp only[dD,cJ hc];cases b<;>exact cJ hx)) (hf▸k)
theorem SQ.binOp{op:BinOp}{u:TypeId}(hw:Region.wanted ⟨dst,.binOp op t x y u,ty,pos,edges,guard⟩ (aY ops fr)=true)(hx:bG fr x=some p)(hy:bG fr y=some q)(hr:dZ P op t p q=some r)(hf:aL fr dst r=aG)(k:SQ P call fl ops l aG σ K) :
  SQ P call fl ops (⟨dst,.binOp op t x y u,ty,pos,edges,guard⟩::l) fr σ K:=
 .step hw (pF rfl At) (hf▸k)
theorem aOw{op:BinOp}{e:TypeId}{b:Bool}{u:TypeId}(hx:bG fr x=some p)(hu:P.underlying t=some (.slice e))(hb:EM p=some b)(ho:op=.eql\/op=.neq) :
  dD P fr (.binOp op t x (.const (.slice none 0 0)) u)=some (.bool (if op=.eql then b else !b)):=by
 have hy:aT fr (.const (.slice none 0 0))=some (.slice 0 [] .full):=rfl;simp only[dD,cJ hx,hy];have hn:dZ P op t p (.slice 0 [] .full)=none:=by
  unfold EM at hb;rcases ho with rfl|rfl
  all_goals
   split at hb
   .simp[dZ,rF,lC,hu]
   .simp[dZ,rF,lC,hu]
   .simp[dZ,rF,lC,hu]
   .cases hb
 rw[hn];rcases ho with rfl|rfl<;>simp[Q1,hu,hb]
theorem SQ.fK{e:TypeId}{b:Bool}{u:TypeId}(hw:Region.wanted ⟨dst,.binOp .eql t x (.const (.slice none 0 0)) u,ty,pos,edges,guard⟩ (aY ops fr)=true)(hx:bG fr x=some p)(hu:P.underlying t=some (.slice e))(hb:EM p=some b)(hf:aL fr dst (.bool b)=aG)(k:SQ P call fl ops l aG σ K) :
  SQ P call fl ops (⟨dst,.binOp .eql t x (.const (.slice none 0 0)) u,ty,pos,edges,guard⟩::l) fr σ K:=
 .step hw (pF rfl (aOw hx hu hb (.inl rfl))) (hf▸k)
theorem SQ.unOp{op:UnOp}(hw:Region.wanted ⟨dst,.unOp op t x,ty,pos,edges,guard⟩ (aY ops fr)=true)(hx:bG fr x=some p)(hr:QY op p=some r)(hf:aL fr dst r=aG)(k:SQ P call fl ops l aG σ K) :
  SQ P call fl ops (⟨dst,.unOp op t x,ty,pos,edges,guard⟩::l) fr σ K:=
 .step hw (pF rfl zu) (hf▸k)
def Z8(P:Program)(u t:TypeId)(p:PD):Option PD:=if NR u t=true then VF P u t p else VG P u t p
attribute [simp] Z8
theorem SQ.convert{u:TypeId}(hw:Region.wanted ⟨dst,.convert u t x,ty,pos,edges,guard⟩ (aY ops fr)=true)(hx:bG fr x=some p)(hr:Z8 P u t p=some r)(hf:aL fr dst r=aG)(k:SQ P call fl ops l aG σ K) :
  SQ P call fl ops (⟨dst,.convert u t x,ty,pos,edges,guard⟩::l) fr σ K:=
 .step hw (by
  unfold Z8 at hr;unfold bI pop;simp only[dI,dD,cJ hx];split at hr
  .rename_i hc;rw[yAJ hc];simp only[cK,cJ hx,hr];rw[yAJ hc]
  .rename_i hc;rw[yAI hc,hr]) (hf▸k)
theorem SQ.makeFunc{f:FuncId}{cap:Array Operand}{cs:Bw}(hw:Region.wanted ⟨dst,.makeFunc (.func f) #[] cap,ty,pos,edges,guard⟩ (aY ops fr)=true)(hx:CM fr cap.toList=some cs)(hf:aL fr dst (.func f cs)=aG)(k:SQ P call fl ops l aG σ K) :
  SQ P call fl ops (⟨dst,.makeFunc (.func f) #[] cap,ty,pos,edges,guard⟩::l) fr σ K:=
 .step hw (pF rfl (by simp[dD,J7 hx])) (hf▸k)
theorem SQ.slice{lo hi mx:Option Operand}{lo' hi' VD:Option (Option PD)}(hw:Region.wanted ⟨dst,.slice t x lo hi mx,ty,pos,edges,guard⟩ (aY ops fr)=true)(hx:bG fr x=some p)(h1:J3 fr lo=some lo')(h2:J3 fr hi=some hi')(h3:J3 fr mx=some VD)
  (hr:J4 P t p lo' hi' VD=some r) (hf:aL fr dst r=aG) (k:SQ P call fl ops l aG σ K):SQ P call fl ops (⟨dst,.slice t x lo hi mx,ty,pos,edges,guard⟩::l) fr σ K:=by
 exact .step hw (pF rfl (by simp only[dD,cJ hx,aCM h1,aCM h2,aCM h3,hr])) (hf▸k)
theorem SQ.fieldAddr{f:Nat}(hw:Region.wanted ⟨dst,.fieldAddr t x f,ty,pos,edges,guard⟩ (aY ops fr)=true)(hx:bG fr x=some p)(hr:LU P t p f=some r)(hf:aL fr dst r=aG)(k:SQ P call fl ops l aG σ K) :
  SQ P call fl ops (⟨dst,.fieldAddr t x f,ty,pos,edges,guard⟩::l) fr σ K:=
 .step hw (pF rfl zu) (hf▸k)
theorem SQ.field{f:Nat}(hw:Region.wanted ⟨dst,.field t x f,ty,pos,edges,guard⟩ (aY ops fr)=true)(hx:bG fr x=some p)(hr:QZ P t p f=some r)(hf:aL fr dst r=aG)(k:SQ P call fl ops l aG σ K) :
  SQ P call fl ops (⟨dst,.field t x f,ty,pos,edges,guard⟩::l) fr σ K:=
 .step hw (pF rfl zu) (hf▸k)
theorem SQ.indexAddr(hw:Region.wanted ⟨dst,.indexAddr t x y,ty,pos,edges,guard⟩ (aY ops fr)=true)(hx:bG fr x=some p)(hy:bG fr y=some q)(hr:NP P t p q=some r)(hf:aL fr dst r=aG)(k:SQ P call fl ops l aG σ K) :
  SQ P call fl ops (⟨dst,.indexAddr t x y,ty,pos,edges,guard⟩::l) fr σ K:=
 .step hw (pF rfl At) (hf▸k)
theorem SQ.index(hw:Region.wanted ⟨dst,.index t x y,ty,pos,edges,guard⟩ (aY ops fr)=true)(hx:bG fr x=some p)(hy:bG fr y=some q)(hr:J5 P t p q=some r)(hf:aL fr dst r=aG)(k:SQ P call fl ops l aG σ K) :
  SQ P call fl ops (⟨dst,.index t x y,ty,pos,edges,guard⟩::l) fr σ K:=
 .step hw (pF rfl At) (hf▸k)
theorem SQ.extract{i:Nat}{vs:Bw}(hw:Region.wanted ⟨dst,.extract x i,ty,pos,edges,guard⟩ (aY ops fr)=true)(hx:bG fr x=some (.aK vs))(hr:vs[i]?=some r)(hf:aL fr dst r=aG)(k:SQ P call fl ops l aG σ K) :
  SQ P call fl ops (⟨dst,.extract x i,ty,pos,edges,guard⟩::l) fr σ K:=
 .step hw (pF rfl zu) (hf▸k)
def PD.aHe:PD->Bool
 |.ptr _ _=>true
 |.cP _ _=>true
 |_=>false
theorem SQ.aOt(hw:Region.wanted ⟨dst,.nilCheck x,ty,pos,edges,guard⟩ (aY ops fr)=true)(hx:bG fr x=some p)(hp:p.aHe=true)(hf:aL fr dst p=aG)(k:SQ P call fl ops l aG σ K) :
  SQ P call fl ops (⟨dst,.nilCheck x,ty,pos,edges,guard⟩::l) fr σ K:=
 .step hw (pF rfl (by
  simp only[dD,cJ hx];cases p<;>first|rfl|(cases hp;done))) (hf▸k)
theorem SQ.build{parts:Array (Nat×Operand)}{ps:List (Nat×PD)}(hw:Region.wanted ⟨dst,.build t parts,ty,pos,edges,guard⟩ (aY ops fr)=true)(hx:NQ fr parts.toList=some ps)(hr:Q0 P t ps=some r)(hf:aL fr dst r=aG)(k:SQ P call fl ops l aG σ K) :
  SQ P call fl ops (⟨dst,.build t parts,ty,pos,edges,guard⟩::l) fr σ K:=
 .step hw (pF rfl (by simp only[dD,aCL hx,hr])) (hf▸k)
theorem SQ.builtin{b:Builtin}{args:Array Operand}{ts:Array TypeId}{ps:Bw}(hw:Region.wanted ⟨dst,.call { callee:=.builtin b,args:=args,argTypes:=ts },ty,pos,edges,guard⟩ (aY ops fr)=true)(hx:CM fr args.toList=some ps)(hr:J6 P b ts ps=some r)
  (hf:aL fr dst r=aG) (k:SQ P call fl ops l aG σ K):SQ P call fl ops (⟨dst,.call { callee:=.builtin b,args:=args,argTypes:=ts },ty,pos,edges,guard⟩::l) fr σ K:=
 .step hw (pF rfl (by simp only[dD,J7 hx,hr])) (hf▸k)
theorem SQ.load(hw:Region.wanted ⟨dst,.load t x,ty,pos,edges,guard⟩ (aY ops fr)=true)(hx:bG fr x=some p)(hr:j8 P σ t p=some r)(hf:aL fr dst r=aG)(k:SQ P call fl ops l aG σ K):SQ P call fl ops (⟨dst,.load t x,ty,pos,edges,guard⟩::l) fr σ K:=
 .step hw (EO rfl rfl (by simp only[cK,cJ hx,hr])) (hf▸k)
theorem SQ.store(hw:Region.wanted ⟨dst,.store t x y,ty,pos,edges,guard⟩ (aY ops fr)=true)(hx:bG fr x=some p)(hy:bG fr y=some q)(hr:pC P fl σ t p q=some σ1)(hf:aL fr dst (.aK [])=aG)(k:SQ P call fl ops l aG σ1 K) :
  SQ P call fl ops (⟨dst,.store t x y,ty,pos,edges,guard⟩::l) fr σ K:=
 .step hw (EO rfl rfl (by simp only[cK,cJ hx,cJ hy,hr])) (hf▸k)
theorem SQ.alloc{p':PD}(hw:Region.wanted ⟨dst,.alloc t,ty,pos,edges,guard⟩ (aY ops fr)=true)(hx:dS P t=some p)(hp:p.cells.all PD.plain=true)(hb:boxed t p=p')(hr:σ++[.box p']=σ1){n:Nat}(hn:σ.length=n)(hf:aL fr dst (.ptr n 0)=aG)(k:SQ P call fl ops l aG σ1 K) :
  SQ P call fl ops (⟨dst,.alloc t,ty,pos,edges,guard⟩::l) fr σ K:=by
 subst hb hr hn;exact .step hw (EO rfl rfl (by simp only[cK,hx,hp,yAM])) (hf▸k)
theorem aOx{t:TypeId}{p:PD}(h:EN t=false):mE t p=p:=by
 unfold mE;split
 .rw[h,yAI xl]
 .rfl
theorem SQ.box(hw:Region.wanted ⟨dst,.box t x,ty,pos,edges,guard⟩ (aY ops fr)=true)(ht:EN t=false)(hx:bG fr x=some p)(hp:p.cells.all PD.plain=true)(hr:σ++[.box p]=σ1){n:Nat}(hn:σ.length=n)(hf:aL fr dst (.ptr n 0)=aG)(k:SQ P call fl ops l aG σ1 K) :
  SQ P call fl ops (⟨dst,.box t x,ty,pos,edges,guard⟩::l) fr σ K:=by
 subst hr hn;exact .step hw (EO rfl rfl (by simp only[cK,cJ hx,hp,yAM,aOx ht])) (hf▸k)
theorem SQ.aCJ{cs:Bw}(hw:Region.wanted ⟨dst,.box t x,ty,pos,edges,guard⟩ (aY ops fr)=true)(ht:EN t=true)(hx:bG fr x=some (.agg cs))(hp:(PD.agg cs).cells.all PD.plain=true)(hr:σ++[.box (.typed t cs)]=σ1){n:Nat}(hn:σ.length=n)(hf:aL fr dst (.ptr n 0)=aG)(k:SQ P call fl ops l aG σ1 K) :
  SQ P call fl ops (⟨dst,.box t x,ty,pos,edges,guard⟩::l) fr σ K:=by
 subst hr hn;exact .step hw (EO rfl rfl (by simp only[cK,cJ hx,hp,yAM,mE,ht])) (hf▸k)
theorem SQ.buildSlice{len:Nat}{parts:Array (Nat×Operand)}{ps:List (Nat×PD)}(hw:Region.wanted ⟨dst,.buildSlice t len parts,ty,pos,edges,guard⟩ (aY ops fr)=true)(hx:NQ fr parts.toList=some ps)(hr:HN P t len (ps.map λq=>(q.1,q.2.strip))=some r)
  (hf:aL fr dst r=aG) (k:SQ P call fl ops l aG σ K):SQ P call fl ops (⟨dst,.buildSlice t len parts,ty,pos,edges,guard⟩::l) fr σ K:=
 .step hw (EO rfl rfl (by simp only[cK,aCL hx,hr])) (hf▸k)
theorem SQ.append(hw:Region.wanted ⟨dst,.call { callee:=.builtin .append,args:=#[x,y],argTypes:=#[t,t] },ty,pos,edges,guard⟩ (aY ops fr)=true)(hx:bG fr x=some p)(hy:bG fr y=some q)
  (hr:(if pE t fr.length=true then mD P fr.length fl σ t p q else dV P fl σ t p q.strip)=some (r,σ1)) (hf:aL fr dst r=aG) (k:SQ P call fl ops l aG σ1 K):SQ P call fl ops (⟨dst,.call { callee:=.builtin .append,args:=#[x,y],argTypes:=#[t,t] },ty,pos,edges,guard⟩::l) fr σ K:=by
 refine .step hw (EO rfl ?_ ?_) (hf▸k)
 .simp only[dD,iX,cJ hx,cJ hy,J6]
 .simp only[cK,iX,cJ hx,cJ hy,yAM]
  by_cases hm:pE t fr.length=true
  .rw[yAJ hm]at hr;rw[hr]
  .rw[yAI hm]at hr;have:mD P fr.length fl σ t p q=none:=by unfold mD;rw[yAI hm]
   rw[this];exact hr
theorem SQ.fL{g:Operand}{args:Array Operand}{ts:Array TypeId}{f:FuncId}{cap ps:Bw}(hw:Region.wanted ⟨dst,.call { callee:=.value g,args:=args,argTypes:=ts },ty,pos,edges,guard⟩ (aY ops fr)=true)(hg:bG fr g=some (.func f cap))
  (hx:CM fr args.toList=some ps) (hr:call fl (.inl f) (ps++cap) σ=some (r,σ1)) (hf:aL fr dst r=aG) (k:SQ P call fl ops l aG σ1 K):SQ P call fl ops (⟨dst,.call { callee:=.value g,args:=args,argTypes:=ts },ty,pos,edges,guard⟩::l) fr σ K:=by
 refine .step hw ?_ (hf▸k);simp only[bI,dI,cJ hg,J7 hx,hr]
theorem aI.lL{f:FuncId}{fn:Func}{c:Code}{args fr:Bw}{p:PD}(hE:E f=none)(hf:P.funcs[f]?=some fn)(hb:fn.body=some c)(hfr:args++List.replicate (fn.ntmps-args.length) (.aK [])=fr)
  (h:Wp P E none c 0 fr [] [] (λr=>∃p1 σ1,vL P 0 fn r=some (p1,σ1)/\p1.strip=p)):aI P E f args p:=by
 subst hfr;exact aI.body hE hf hb h
theorem cH.lL{f:FuncId}{fn:Func}{c:Code}{args:Bw}{R:PD->List U->Prop}(hE:E f=none)(hf:P.funcs[f]?=some fn)(hb:fn.body=some c)(hfr:args++List.replicate (fn.ntmps-args.length) (.aK [])=fr)
  (h:Wp P E none c fl fr [] σ (λr=>∃p1 σ1,vL P fl fn r=some (p1,σ1)/\R p1 σ1)):cH P E fl (.inl f) args σ R:=by
 subst hfr;exact cH.body hE hf hb h
theorem aI.aU{f:FuncId}{fn:Func}{c:Code}{args fr:Bw}{p:PD}(n:Nat)(hE:E f=none)(hf:P.funcs[f]?=some fn)(hb:fn.body=some c:=by rfl)(hn:fn.ntmps=n:=by rfl)(hfr:args++List.replicate (n-args.length) (.aK [])=fr:=by(simp[List.replicate];rfl))
  (h:Wp P E none c 0 fr [] [] (λr=>∃p1 σ1,vL P 0 fn r=some (p1,σ1)/\p1.strip=p)):aI P E f args p:=by
 subst hn;exact aI.lL hE hf hb hfr h
theorem cH.aU{f:FuncId}{fn:Func}{c:Code}{args fr:Bw}{R:PD->List U->Prop}(n:Nat)(hE:E f=none)(hf:P.funcs[f]?=some fn)(hb:fn.body=some c:=by rfl)(hn:fn.ntmps=n:=by rfl)(hfr:args++List.replicate (n-args.length) (.aK [])=fr:=by(simp[List.replicate];rfl))
  (h:Wp P E none c fl fr [] σ (λr=>∃p1 σ1,vL P fl fn r=some (p1,σ1)/\R p1 σ1)):cH P E fl (.inl f) args σ R:=by
 subst hn;exact cH.lL hE hf hb hfr h
theorem Wp.dE{id:Nat}(h:SQ P (cN E) fl ops ops.toList fr σ (λfr' σ'=>Q ⟨.normal,fr',ms,σ'⟩)):Wp P E rd (.region id ops false) fl fr ms σ Q:=by
 obtain⟨fr',σ',h1,h2⟩:=h.ex;exact .region h1 h2
theorem Wp.aOs{id:Nat}(hU:aF E)(hs:(vJ ops&&HM ops)=true)(h:SQ P (eU E) fl ops ops.toList fr σ (λfr' σ'=>Q ⟨.normal,fr',ms,σ'⟩)):Wp P E rd (.region id ops true) fl fr ms σ Q:=by
 obtain⟨fr',σ',h1,h2⟩:=h.ex;exact .dW hU hs h1 h2
structure aM (I:Nat->List PD->List U->Prop) (m:Nat) (ms:List Nat) (Q:PO->Prop) (r:PO):Prop where
 nx:r.x=.normal->r.ms=ms/\∃m',m'<m/\I m' r.fr r.σ
 out:r.x≠.normal->Q r
theorem aM.normal{I:Nat->List PD->List U->Prop}{m:Nat}(m':Nat)(h:m'<m)(k:I m' fr σ):aM I m ms Q ⟨.normal,fr,ms,σ⟩:=⟨λ_=>⟨rfl,m',h,k⟩,λe=>absurd rfl e⟩
theorem aM.ret{I:Nat->List PD->List U->Prop}{m:Nat}{ms':List Nat}(h:Q ⟨.ret,fr,ms',σ⟩):aM I m ms Q ⟨.ret,fr,ms',σ⟩:=⟨λe=>xx,λ_=>h⟩
theorem aM.exit{I:Nat->List PD->List U->Prop}{m k:Nat}{ms':List Nat}(h:Q ⟨.exit k,fr,ms',σ⟩):aM I m ms Q ⟨.exit k,fr,ms',σ⟩:=⟨λe=>xx,λ_=>h⟩
theorem Wp.eV{b:Code}(I:Nat->List PD->List U->Prop)(h:∀m fr σ,I m fr σ->Wp P E rd b fl fr ms σ (aM I m ms Q)):∀m {fr σ},I m fr σ->Wp P E rd (.loop b) fl fr ms σ Q:=by
 intro m
 induction m using Nat.strongRecOn with
 |ind m ih=>
  intro fr σ hi;refine Wp.loop ((h m fr σ hi).mono λr hr=>⟨λe=>?_,λe=>hr.out e⟩);obtain⟨e1,m',h1,h2⟩:=hr.nx e;rw[e1];exact ih m' h1 h2
end
end
section
section
variable{P:Program}{E:aE}{rd:Option Nat}{fl:Nat}{fr frA:Bw}{ms:List Nat}{σ:Bv}{Q:PO->Prop}
end
end
section
open Go.RowKit Go.ChangeShapes
theorem aI.calls{P:Program}{E:aE}(hE:aH P E)(hP:P.follows .mixedOrders=true)(hN:∀(f:FuncId) fn,P.funcs[f]?=some fn->(fn.name== "runtime.NumGoroutine")=false)
  {f:FuncId} {args:Bw} {vs:Ca} {w:World} {b:Bool} (h:aI P E f args (.bool b)) (hg:Gl (.start w)) (hv:aJ (.start w) vs.toList args) :
  Calls P f vs w λe w'=>e=.returned (.bool b)/\Below w.heap.size w w':=by
 obtain⟨p1,σ1,⟨N,hN'⟩,hp⟩:=h;have hb:p1=.bool b:=by
  cases p1 with
  |slice n xs tok=>cases xs<;>simp[PD.strip]at hp
  |_=>simpa [PD.strip]using hp
 subst hb;have:=aOv hE hP hN (hN' N (yAk _)) hg hv;exact bn
section
variable{H:Type}{enc:TypeId×Value->H}{P:Program}
theorem aHf(hl:laidOutB P=true){W W':World}(hb:Below W.heap.size W W'):∀(ts:List TypeId) (vs:List Value) (ds:List (DataW H)) (ps:List MemPlace),(∀t∈ts,P.readableRec t=true/\t<P.types.size)->(∀x∈ps,x.block<W.heap.size) ->
  DataW.TrodAll enc P W 0 (λ_=>true) true ts vs ds ps->DataW.TrodAll enc P W' 0 (λb=>decide (b<W.heap.size)) true ts vs ds ps
 | [],[],[],_,_,_,h=>h
 |t::ts,v::vs,d::ds,ps,ht,hp,h=>by
  obtain⟨p,q,h1,h2,rfl⟩:=h;obtain⟨h3,h4⟩:=ht t wz;exact⟨p,q,Below.trod hl h3 h4 h1 hb (λx hx=>hp x (by simp[hx])),aHf hl hb ts vs ds q (λt' h'=>ht t' (by simp[h'])) (λx hx=>hp x (by simp[hx])) h2,rfl⟩
 | [],[],_::_,_,_,_,h=>h.elim
 | [],_::_,_,_,_,_,h=>xz
 |_::_,[],_,_,_,_,h=>xz
 |_::_,_::_,[],_,_,_,h=>h.elim
theorem aNV(hl:laidOutB P=true){f:Func}{s:ChangeSpec}{W W':World}{args:Ca}{ds gs:List (DataW H)}{before:List MemPlace}{tb:TypeId}(hvars:s.vars=[])
  (hW:DataW.Whole enc P f.params.toList s.vars false W args.toList ds gs before) (hb:Below W.heap.size W W') (hres:f.resultTypes=#[tb]) (htb:P.underlying tb=some .bool)
  (hps:(f.params.toList.all λt=>P.readableRec t&&decide (t<P.types.size))=true) (hs:∀ds:List (DataW H),gs=[]->ds.length=f.params.size->s.fn H (ds++gs)={ results:=[.lit (.bool true)],args:=ds }) :
  s.post enc P f false true false false W args (.bool true) W':=by
 have Z3:=hW;obtain⟨p,q,hA,hV,rfl,hfz,hnd⟩:=hW;rw[hvars]at hV;obtain⟨rfl,rfl⟩:gs=[]/\q=[]:=by
  cases gs with
  |nil=>exact⟨rfl,hV⟩
  |cons g r=>exact absurd hV (by intro h;cases h)
 have hlen:ds.length=f.params.size:=by
  have:∀(ts:List TypeId) (vs:List Value) (ds:List (DataW H)) (ps:List MemPlace),DataW.TrodAll enc P W 0 (λ_=>true) true ts vs ds ps->ds.length=ts.length:=by
   intro ts
   induction ts with
   |nil=>
    intro vs ds ps h;cases vs<;>cases ds<;>first|rfl|(exact h.elim)|cases h
   |cons t ts ih=>
    intro vs ds ps h;cases vs with
    |nil=>cases h
    |cons v vs=>
     cases ds with
     |nil=>exact h.elim
     |cons d ds=>
      obtain⟨p,q,_,h2,_⟩:=h;simp[ih vs ds q h2]
  have:=this _ _ _ _ hA;exact bn
 have e:=hs ds rfl hlen;have hlt:∀x∈p,x.block<W.heap.size:=λx hx=>by simpa using Z3.lt x yj
 refine⟨ds,[],_,[],p,[],Z3,?_,?_,?_,hb.frame _,λh=>xz⟩
 .rw[e,hres];exact trodAll_mk1 (shut_bool htb true)
 .rw[e];exact aHf hl hb _ _ _ _ (λt ht=>by simpa using yAn.1 hps t ht) hlt hA
 .rw[e,hvars];rfl
end
end
section
structure By (p:Prop):Prop where
 h:p
structure Fr (p:Prop):Prop where
 h:p
structure Wt (p:Prop):Prop where
 h:p
structure Ns (p:Prop):Prop where
 h:p
theorem By.i{p:Prop}(h:p):By p:=⟨h⟩
theorem Fr.i{p:Prop}(h:p):Fr p:=⟨h⟩
theorem Wt.i{p:Prop}(h:p):Wt p:=⟨h⟩
theorem Ns.i{p:Prop}(h:p):Ns p:=⟨h⟩
section
variable{P:Program}{E:aE}{call:cO}{rd:Option Nat}{fl:Nat}{fr aG:Bw}{ms:List Nat}{σ σ1:Bv}{Q:PO->Prop}{ops:Cb}{K:List PD->List U->Prop}{l:List Oper}{dst:Option Tmp}
 {ty:TypeId} {pos:String} {edges:Array Edge} {guard:Option (Nat×Bool)} {t:TypeId} {x y:Operand} {p q r:PD}
theorem SL.move(hw:Wt (Region.wanted ⟨dst,.move x,ty,pos,edges,guard⟩ (aY ops fr)=true))(hx:bG fr x=some p)(hf:Fr (aL fr dst p=aG))(k:SQ P call fl ops l aG σ K):SQ P call fl ops (⟨dst,.move x,ty,pos,edges,guard⟩::l) fr σ K:=SQ.move hw.h hx hf.h k
theorem SL.assign(hw:Wt (Region.wanted ⟨dst,.assign x,ty,pos,edges,guard⟩ (aY ops fr)=true))(hx:bG fr x=some p)(hf:Fr (aL fr dst p=aG))(k:SQ P call fl ops l aG σ K):SQ P call fl ops (⟨dst,.assign x,ty,pos,edges,guard⟩::l) fr σ K:=SQ.assign hw.h hx hf.h k
theorem SL.pick{c:Operand}{b:Bool}(hw:Wt (Region.wanted ⟨dst,.pick c x y,ty,pos,edges,guard⟩ (aY ops fr)=true))(hc:bG fr c=some (.bool b))(hx:cond b (bG fr x) (bG fr y)=some p)(hf:Fr (aL fr dst p=aG))(k:SQ P call fl ops l aG σ K) :
  SQ P call fl ops (⟨dst,.pick c x y,ty,pos,edges,guard⟩::l) fr σ K:=SQ.pick hw.h hc hx hf.h k
theorem SL.binOp{op:BinOp}{u:TypeId}(hw:Wt (Region.wanted ⟨dst,.binOp op t x y u,ty,pos,edges,guard⟩ (aY ops fr)=true))(hx:bG fr x=some p)(hy:bG fr y=some q)(hr:By (dZ P op t p q=some r))(hf:Fr (aL fr dst r=aG))(k:SQ P call fl ops l aG σ K) :
  SQ P call fl ops (⟨dst,.binOp op t x y u,ty,pos,edges,guard⟩::l) fr σ K:=SQ.binOp hw.h hx hy hr.h hf.h k
theorem SL.fK{e:TypeId}{b:Bool}{u:TypeId}(hw:Wt (Region.wanted ⟨dst,.binOp .eql t x (.const (.slice none 0 0)) u,ty,pos,edges,guard⟩ (aY ops fr)=true))(hx:bG fr x=some p)(hu:By (P.underlying t=some (.slice e)))(hb:By (EM p=some b))(hf:Fr (aL fr dst (.bool b)=aG))(k:SQ P call fl ops l aG σ K) :
  SQ P call fl ops (⟨dst,.binOp .eql t x (.const (.slice none 0 0)) u,ty,pos,edges,guard⟩::l) fr σ K:=SQ.fK hw.h hx hu.h hb.h hf.h k
theorem SL.unOp{op:UnOp}(hw:Wt (Region.wanted ⟨dst,.unOp op t x,ty,pos,edges,guard⟩ (aY ops fr)=true))(hx:bG fr x=some p)(hr:By (QY op p=some r))(hf:Fr (aL fr dst r=aG))(k:SQ P call fl ops l aG σ K) :
  SQ P call fl ops (⟨dst,.unOp op t x,ty,pos,edges,guard⟩::l) fr σ K:=SQ.unOp hw.h hx hr.h hf.h k
theorem SL.convert{u:TypeId}(hw:Wt (Region.wanted ⟨dst,.convert u t x,ty,pos,edges,guard⟩ (aY ops fr)=true))(hx:bG fr x=some p)(hr:By (Z8 P u t p=some r))(hf:Fr (aL fr dst r=aG))(k:SQ P call fl ops l aG σ K) :
  SQ P call fl ops (⟨dst,.convert u t x,ty,pos,edges,guard⟩::l) fr σ K:=SQ.convert hw.h hx hr.h hf.h k
theorem SL.makeFunc{f:FuncId}{cap:Array Operand}{cs:Bw}(hw:Wt (Region.wanted ⟨dst,.makeFunc (.func f) #[] cap,ty,pos,edges,guard⟩ (aY ops fr)=true))(hx:CM fr cap.toList=some cs)(hf:Fr (aL fr dst (.func f cs)=aG))(k:SQ P call fl ops l aG σ K) :
  SQ P call fl ops (⟨dst,.makeFunc (.func f) #[] cap,ty,pos,edges,guard⟩::l) fr σ K:=SQ.makeFunc hw.h hx hf.h k
theorem SL.slice{lo hi mx:Option Operand}{lo' hi' VD:Option (Option PD)}(hw:Wt (Region.wanted ⟨dst,.slice t x lo hi mx,ty,pos,edges,guard⟩ (aY ops fr)=true))(hx:bG fr x=some p)(h1:J3 fr lo=some lo')(h2:J3 fr hi=some hi')(h3:J3 fr mx=some VD)
  (hr:By (J4 P t p lo' hi' VD=some r)) (hf:Fr (aL fr dst r=aG)) (k:SQ P call fl ops l aG σ K):SQ P call fl ops (⟨dst,.slice t x lo hi mx,ty,pos,edges,guard⟩::l) fr σ K:=SQ.slice hw.h hx h1 h2 h3 hr.h hf.h k
theorem SL.fieldAddr{f:Nat}(hw:Wt (Region.wanted ⟨dst,.fieldAddr t x f,ty,pos,edges,guard⟩ (aY ops fr)=true))(hx:bG fr x=some p)(hr:By (LU P t p f=some r))(hf:Fr (aL fr dst r=aG))(k:SQ P call fl ops l aG σ K) :
  SQ P call fl ops (⟨dst,.fieldAddr t x f,ty,pos,edges,guard⟩::l) fr σ K:=SQ.fieldAddr hw.h hx hr.h hf.h k
theorem SL.field{f:Nat}(hw:Wt (Region.wanted ⟨dst,.field t x f,ty,pos,edges,guard⟩ (aY ops fr)=true))(hx:bG fr x=some p)(hr:By (QZ P t p f=some r))(hf:Fr (aL fr dst r=aG))(k:SQ P call fl ops l aG σ K) :
  SQ P call fl ops (⟨dst,.field t x f,ty,pos,edges,guard⟩::l) fr σ K:=SQ.field hw.h hx hr.h hf.h k
theorem SL.indexAddr(hw:Wt (Region.wanted ⟨dst,.indexAddr t x y,ty,pos,edges,guard⟩ (aY ops fr)=true))(hx:bG fr x=some p)(hy:bG fr y=some q)(hr:By (NP P t p q=some r))(hf:Fr (aL fr dst r=aG))(k:SQ P call fl ops l aG σ K) :
  SQ P call fl ops (⟨dst,.indexAddr t x y,ty,pos,edges,guard⟩::l) fr σ K:=SQ.indexAddr hw.h hx hy hr.h hf.h k
theorem SL.index(hw:Wt (Region.wanted ⟨dst,.index t x y,ty,pos,edges,guard⟩ (aY ops fr)=true))(hx:bG fr x=some p)(hy:bG fr y=some q)(hr:By (J5 P t p q=some r))(hf:Fr (aL fr dst r=aG))(k:SQ P call fl ops l aG σ K) :
  SQ P call fl ops (⟨dst,.index t x y,ty,pos,edges,guard⟩::l) fr σ K:=SQ.index hw.h hx hy hr.h hf.h k
theorem SL.extract{i:Nat}{vs:Bw}(hw:Wt (Region.wanted ⟨dst,.extract x i,ty,pos,edges,guard⟩ (aY ops fr)=true))(hx:bG fr x=some (.aK vs))(hr:vs[i]?=some r)(hf:Fr (aL fr dst r=aG))(k:SQ P call fl ops l aG σ K) :
  SQ P call fl ops (⟨dst,.extract x i,ty,pos,edges,guard⟩::l) fr σ K:=SQ.extract hw.h hx hr hf.h k
theorem SL.nilCheck(hw:Wt (Region.wanted ⟨dst,.nilCheck x,ty,pos,edges,guard⟩ (aY ops fr)=true))(hx:bG fr x=some p)(hp:Wt (p.aHe=true))(hf:Fr (aL fr dst p=aG))(k:SQ P call fl ops l aG σ K) :
  SQ P call fl ops (⟨dst,.nilCheck x,ty,pos,edges,guard⟩::l) fr σ K:=SQ.aOt hw.h hx hp.h hf.h k
theorem SL.build{parts:Array (Nat×Operand)}{ps:List (Nat×PD)}(hw:Wt (Region.wanted ⟨dst,.build t parts,ty,pos,edges,guard⟩ (aY ops fr)=true))(hx:NQ fr parts.toList=some ps)(hr:By (Q0 P t ps=some r))(hf:Fr (aL fr dst r=aG))(k:SQ P call fl ops l aG σ K) :
  SQ P call fl ops (⟨dst,.build t parts,ty,pos,edges,guard⟩::l) fr σ K:=SQ.build hw.h hx hr.h hf.h k
theorem SL.builtin{b:Builtin}{args:Array Operand}{ts:Array TypeId}{ps:Bw}(hw:Wt (Region.wanted ⟨dst,.call { callee:=.builtin b,args:=args,argTypes:=ts },ty,pos,edges,guard⟩ (aY ops fr)=true))(hx:CM fr args.toList=some ps)(hr:By (J6 P b ts ps=some r))
  (hf:Fr (aL fr dst r=aG)) (k:SQ P call fl ops l aG σ K):SQ P call fl ops (⟨dst,.call { callee:=.builtin b,args:=args,argTypes:=ts },ty,pos,edges,guard⟩::l) fr σ K:=SQ.builtin hw.h hx hr.h hf.h k
theorem SL.load(hw:Wt (Region.wanted ⟨dst,.load t x,ty,pos,edges,guard⟩ (aY ops fr)=true))(hx:bG fr x=some p)(hr:By (j8 P σ t p=some r))(hf:Fr (aL fr dst r=aG))(k:SQ P call fl ops l aG σ K):SQ P call fl ops (⟨dst,.load t x,ty,pos,edges,guard⟩::l) fr σ K:=SQ.load hw.h hx hr.h hf.h k
theorem SL.store(hw:Wt (Region.wanted ⟨dst,.store t x y,ty,pos,edges,guard⟩ (aY ops fr)=true))(hx:bG fr x=some p)(hy:bG fr y=some q)(hr:By (pC P fl σ t p q=some σ1))(hf:Fr (aL fr dst (.aK [])=aG))(k:SQ P call fl ops l aG σ1 K) :
  SQ P call fl ops (⟨dst,.store t x y,ty,pos,edges,guard⟩::l) fr σ K:=SQ.store hw.h hx hy hr.h hf.h k
theorem SL.alloc{p':PD}(hw:Wt (Region.wanted ⟨dst,.alloc t,ty,pos,edges,guard⟩ (aY ops fr)=true))(hx:By (dS P t=some p))(hp:p.cells.all PD.plain=true)(hb:By (boxed t p=p'))(hr:Ns (σ++[.box p']=σ1)){n:Nat}(hn:Ns (σ.length=n))(hf:Fr (aL fr dst (.ptr n 0)=aG))(k:SQ P call fl ops l aG σ1 K) :
  SQ P call fl ops (⟨dst,.alloc t,ty,pos,edges,guard⟩::l) fr σ K:=SQ.alloc hw.h hx.h hp hb.h hr.h hn.h hf.h k
theorem SL.box(hw:Wt (Region.wanted ⟨dst,.box t x,ty,pos,edges,guard⟩ (aY ops fr)=true))(ht:Wt (EN t=false))(hx:bG fr x=some p)(hp:p.cells.all PD.plain=true)(hr:Ns (σ++[.box p]=σ1)){n:Nat}(hn:Ns (σ.length=n))(hf:Fr (aL fr dst (.ptr n 0)=aG))(k:SQ P call fl ops l aG σ1 K) :
  SQ P call fl ops (⟨dst,.box t x,ty,pos,edges,guard⟩::l) fr σ K:=SQ.box hw.h ht.h hx hp hr.h hn.h hf.h k
theorem SL.aCJ{cs:Bw}(hw:Wt (Region.wanted ⟨dst,.box t x,ty,pos,edges,guard⟩ (aY ops fr)=true))(ht:Wt (EN t=true))(hx:bG fr x=some (.agg cs))(hp:(PD.agg cs).cells.all PD.plain=true)(hr:Ns (σ++[.box (.typed t cs)]=σ1)){n:Nat}(hn:Ns (σ.length=n))(hf:Fr (aL fr dst (.ptr n 0)=aG))(k:SQ P call fl ops l aG σ1 K) :
  SQ P call fl ops (⟨dst,.box t x,ty,pos,edges,guard⟩::l) fr σ K:=SQ.aCJ hw.h ht.h hx hp hr.h hn.h hf.h k
theorem SL.buildSlice{len:Nat}{parts:Array (Nat×Operand)}{ps:List (Nat×PD)}(hw:Wt (Region.wanted ⟨dst,.buildSlice t len parts,ty,pos,edges,guard⟩ (aY ops fr)=true))(hx:NQ fr parts.toList=some ps)(hr:By (HN P t len (ps.map λq=>(q.1,q.2.strip))=some r))
  (hf:Fr (aL fr dst r=aG)) (k:SQ P call fl ops l aG σ K):SQ P call fl ops (⟨dst,.buildSlice t len parts,ty,pos,edges,guard⟩::l) fr σ K:=SQ.buildSlice hw.h hx hr.h hf.h k
theorem SL.append(hw:Wt (Region.wanted ⟨dst,.call { callee:=.builtin .append,args:=#[x,y],argTypes:=#[t,t] },ty,pos,edges,guard⟩ (aY ops fr)=true))(hx:bG fr x=some p)(hy:bG fr y=some q)
  (hr:By ((if pE t fr.length=true then mD P fr.length fl σ t p q else dV P fl σ t p q.strip)=some (r,σ1))) (hf:Fr (aL fr dst r=aG)) (k:SQ P call fl ops l aG σ1 K):SQ P call fl ops (⟨dst,.call { callee:=.builtin .append,args:=#[x,y],argTypes:=#[t,t] },ty,pos,edges,guard⟩::l) fr σ K:=SQ.append hw.h hx hy hr.h hf.h k
theorem SL.fL{g:Operand}{args:Array Operand}{ts:Array TypeId}{f:FuncId}{cap ps:Bw}(hw:Wt (Region.wanted ⟨dst,.call { callee:=.value g,args:=args,argTypes:=ts },ty,pos,edges,guard⟩ (aY ops fr)=true))(hg:bG fr g=some (.func f cap))
  (hx:CM fr args.toList=some ps) (hr:By (call fl (.inl f) (ps++cap) σ=some (r,σ1))) (hf:Fr (aL fr dst r=aG)) (k:SQ P call fl ops l aG σ1 K):SQ P call fl ops (⟨dst,.call { callee:=.value g,args:=args,argTypes:=ts },ty,pos,edges,guard⟩::l) fr σ K:=SQ.fL hw.h hg hx hr.h hf.h k
theorem SL.pass{op:Op}{g:Nat×Bool}(hw:Wt (Region.wanted ⟨dst,op,ty,pos,edges,some g⟩ (aY ops fr)=false))(hf:Fr (aL fr dst (.aK [])=aG))(k:SQ P call fl ops l aG σ K):SQ P call fl ops (⟨dst,op,ty,pos,edges,some g⟩::l) fr σ K:=
 SQ.pass (o:=⟨dst,op,ty,pos,edges,some g⟩) hw.h hf.h k
def LO(ops:Array Oper):Bool:=ops.toList.all λo=>match o.op with
 |.call { callee:=.value (.tmp _),.. }=>false
 |.call { callee:=.value (.func f),.. }=>!aOu f
 |.panic _=>false
 |_=>true
theorem WL.jU{id:Nat}{y:Code}(_hs:LO ops=true)(h:SQ P (cN E) fl ops ops.toList fr σ (λfr' σ'=>Wp P E rd y fl fr' ms σ' Q)):Wp P E rd (.seq (.region id ops false) y) fl fr ms σ Q:=by
 obtain⟨fr',σ',h1,h2⟩:=h.ex;exact .seq (.region h1 (.normal h2))
theorem WL.dW{id:Nat}{y:Code}(hU:aF E)(_hd:LO ops=true)(hs:(vJ ops&&HM ops)=true)(h:SQ P (eU E) fl ops ops.toList fr σ (λfr' σ'=>Wp P E rd y fl fr' ms σ' Q)):Wp P E rd (.seq (.region id ops true) y) fl fr ms σ Q:=by
 obtain⟨fr',σ',h1,h2⟩:=h.ex;exact .seq (.dW hU hs h1 (.normal h2))
theorem WL.jG{id:Nat}{y:Code}(_hd:LO ops=true)(hs:(vJ ops&&VE ops)=true)(h:SQ P (cN E) fl ops ops.toList fr σ (λfr' σ'=>Wp P E rd y fl fr' ms σ' Q)):Wp P E rd (.seq (.region id ops true) y) fl fr ms σ Q:=by
 obtain⟨fr',σ',h1,h2⟩:=h.ex;exact .seq (.jG hs h1 (.normal h2))
theorem WL.kE{id:Nat}(_hs:LO ops=true)(h:SQ P (cN E) fl ops ops.toList fr σ (λfr' σ'=>Q ⟨.normal,fr',ms,σ'⟩)):Wp P E rd (.region id ops false) fl fr ms σ Q:=.dE h
theorem WL.ct{g:Operand}{x y:Code}(hg:bG fr g=some (.bool true))(h1:Wp P E rd x fl fr ms σ Q):Wp P E rd (.cond g x y) fl fr ms σ Q:=.cond_true (cJ hg) h1
theorem WL.cf{g:Operand}{x y:Code}(hg:bG fr g=some (.bool false))(h1:Wp P E rd y fl fr ms σ Q):Wp P E rd (.cond g x y) fl fr ms σ Q:=.cond_false (cJ hg) h1
theorem vK{c:Prop}{σ σ':Bv}{fr:Bw}{A:(Nat->PD)->Bw}(hc:c)(h:fr=A (λn=>fr.getD n (.aK [])))(hs:σ=σ'):∃g:Nat->PD,c/\fr=A g/\σ=σ':=⟨_,hc,h,hs⟩
end
theorem cG{c:Prop}{σ σ':Bv}{fr:Bw}{A:(Nat->PD)->Bw}(hc:c)(h:fr=A (λn=>fr.getD n (.aK [])):=by(first|rfl|(simp[];repeat(first|rfl|(apply And.intro)))|(simp[];done)))(hs:σ=σ':=by(first|rfl|(simp[];repeat(first|rfl|(apply And.intro)))|(simp[];done))):∃g:Nat->PD,c/\fr=A g/\σ=σ':=⟨_,hc,h,hs⟩
theorem jV{X c:Prop}{σ σ':Bv}{fr:Bw}{A:(Nat->PD)->Bw}(hc:c)(gx:X)(h:X->fr=A (λn=>fr.getD n (.aK [])):=by(intro gx;first|rfl|(simp[gx];repeat(first|rfl|(apply And.intro)))|(simp[gx];done)))(hs:X->σ=σ':=by(intro gx;first|rfl|(simp[gx];repeat(first|rfl|(apply And.intro)))|(simp[gx];done))):∃g:Nat->PD,c/\fr=A g/\σ=σ':=⟨_,hc,h gx,hs gx⟩
end
theorem WL.kC{P:Program}{E:aE}{rd:Option Nat}{fl:Nat}{fr:Bw}{ms:List Nat}{σ:Bv}{Q:PO->Prop}{ops:Cb}{id:Nat}(hU:aF E)(_hd:LO ops=true)(hs:(vJ ops&&HM ops)=true)(h:SQ P (eU E) fl ops ops.toList fr σ (λfr' σ'=>Q ⟨.normal,fr',ms,σ'⟩)) :
  Wp P E rd (.region id ops true) fl fr ms σ Q:=.aOs hU hs h
section
inductive CK where
 |b
 |i (k:IntKind)
 |s
def J1(c:Bool):Option Bool->Option Bool
 |some d=>some (c&&d)
 |none=>none
def kO:List CK->List PD->List PD->Option Bool
 | [],[],[]=>some true
 |.b::ks,.bool a::xs,.bool b::ys=>J1 (decide (a=b)) (kO ks xs ys)
 |.i k::ks,.int k1 a::xs,.int k2 b::ys=>if k1=k/\k2=k then J1 (decide (a=b)) (kO ks xs ys)else none
 |.s::ks,.str a::xs,.str b::ys=>J1 (decide (a=b)) (kO ks xs ys)
 |_,_,_=>none
def VC(pl:TypeId->Option (List CK))(P:Program):Nat->List Field->Option (List CK)
 |_,[]=>some []
 |off,f::fs=>if f.name= "_" \/ f.offset≠off then none else
  match pl f.type,bS P f.type with
  |some ks,some n=>if ks.length=n/\0<n then(match VC pl P (off+n) fs with|some r=>some (ks++r)|none=>none)else none
  |_,_=>none
def CL(P:Program):Nat->TypeId->Option (List CK)
 |0,_=>none
 |d+1,t=>match P.underlying t with
  |some .bool=>some [.b]
  |some (.int k)=>some [.i k]
  |some .string=>some [.s]
  |some (.struct fs)=>if P.stoodInHeld t then none else VC (CL P d) P 0 fs.toList
  |some (.array len e)=>match CL P d e,bS P e with
   |some ks,some n=>if ks.length=n/\0<n then some (List.replicate len ks).flatten else none
   |_,_=>none
  |_=>none
def NO(P:Program)(t:TypeId)(x:PD)(xs:List PD):Prop:=(fA P t=some true/\x=.agg xs)\/(fA P t=some false/\xs=[x])
theorem aHc:∀ {xs ys:Bw} {b:Bool},kO [] xs ys=some b->b=true
 | [],[],b,h=>by simp only[kO,yAb]at h;exact h.symm
 | [],_::_,_,h=>by simp[kO]at h
 |_::_,_,_,h=>by simp[kO]at h
theorem aCG:∀(ks r:List CK) (xs ys:List PD) (b:Bool),kO (ks++r) xs ys=some b ->
  ∃b1 b2,kO ks (xs.take ks.length) (ys.take ks.length)=some b1/\kO r (xs.drop ks.length) (ys.drop ks.length)=some b2/\b=(b1&&b2)/\ks.length<=xs.length/\ks.length<=ys.length
 | [],r,xs,ys,b,h=>⟨true,b,rfl,h,wz,wz,wz⟩
 |k::ks,r,xs,ys,b,h=>by
  have key:∀(c:Bool) (us vs:List PD),J1 c (kO (ks++r) us vs)=some b->∃b1 b2,J1 c (kO ks (us.take ks.length) (vs.take ks.length))=some b1/\kO r (us.drop ks.length) (vs.drop ks.length)=some b2/\b=(b1&&b2)/\ks.length<=us.length/\ks.length<=vs.length:=by
   intro c us vs hc;cases h1:kO (ks++r) us vs with
   |none=>rw[h1]at hc;cases hc
   |some d=>
    rw[h1]at hc;simp only[J1,yAb]at hc;obtain⟨b1,b2,e1,e2,e3,e4,e5⟩:=aCG ks r us vs d h1;exact⟨c&&b1,b2,Ah,e2,by rw[<-hc,e3,Bool.and_assoc],e4,e5⟩
  match k,xs,ys,h with
  |.b,.bool a::xs,.bool a'::ys,h=>
    exact ko
  |.i k,.int k1 a::xs,.int k2 a'::ys,h=>
    simp only[yAR,kO]at h;split at h
    .rename_i hk;obtain⟨b1,b2,e1,e2,e3,e4,e5⟩:=key _ xs ys h;exact⟨b1,b2,by simpa only[yAK,yCO,kO,yAJ hk]using e1,e2,e3,by simpa using e4,by simpa using e5⟩
    .cases h
  |.s,.str a::xs,.str a'::ys,h=>
    exact ko
section
variable{P:Program}
theorem aOr{d:Nat}{t:TypeId}{ks:List CK}(h:CL P d t=some ks):(fA P t=some true)\/(fA P t=some false/\ks.length=1):=by
 cases d with
 |zero=>cases h
 |succ d=>
  unfold CL at h;unfold fA;split at h<;>rename_i hu<;>try simp only[hu]
  .right;simp only[yAb]at h;subst h;exact⟨trivial,rfl⟩
  .right;simp only[yAb]at h;subst h;exact⟨trivial,rfl⟩
  .right;simp only[yAb]at h;subst h;exact⟨trivial,rfl⟩
  .left;trivial
  .left;trivial
  .cases h
theorem aHd{d:Nat}{t:TypeId}{ks:List CK}(h:CL P d t=some ks)(hs:bS P t=some ks.length){xs:Bw}{off:Nat}(hl:off+ks.length<=xs.length):∃x,mC P t xs off=some x/\NO P t x ((xs.drop off).take ks.length):=by
 rcases aOr h with ha | ⟨ha,h1⟩
 .exact⟨_,by simp only[mC,ha,hs,hl,yAM],.inl ⟨ha,rfl⟩⟩
 .rw[h1]at hl;have hlt:off<xs.length:=xb;refine⟨xs[off],by simp only[mC,ha,hs,yAh hlt],.inr ⟨ha,?_⟩⟩;rw[h1,yAq hlt];rfl
theorem aCH:∀(d:Nat) (t:TypeId) (ks:List CK) (x y:PD) (xs ys:List PD) (b:Bool),CL P d t=some ks->NO P t x xs->NO P t y ys->kO ks xs ys=some b->lC P d t x y=some b
 |0,_,_,_,_,_,_,_,h,_,_,_=>xz
 |d+1,t,ks,x,y,xs,ys,b,h,hx,hy,hc=>by
  unfold CL at h;unfold lC;have fin:∀ {z:PD} {zs:Bw},NO P t z zs->fA P t=some true->z=.agg zs:=λhz ha=>by
   rcases hz with⟨_,e⟩ | ⟨e,_⟩
   .exact e
   .rw[ha]at e;cases e
  have one:∀ {z:PD} {zs:Bw},NO P t z zs->fA P t=some false->zs=[z]:=λhz ha=>by
   rcases hz with⟨e,_⟩ | ⟨_,e⟩
   .rw[ha]at e;cases e
   .exact e
  split at h<;>rename_i hu<;>try simp only[hu]
  .simp only[yAb]at h;subst h;have ha:fA P t=some false:=Af;rw[one hx ha,one hy ha]at hc;cases x<;>cases y<;>simp only[kO,reduceCtorEq]at hc ⊢
   simpa [J1,BEq.beq]using hc
  .rename_i k;simp only[yAb]at h;subst h;have ha:fA P t=some false:=Af;rw[one hx ha,one hy ha]at hc;cases x<;>cases y<;>simp only[kO,reduceCtorEq]at hc ⊢
   split at hc
   .rename_i hk;rw[yAJ (hk.1.trans hk.2.symm)];simpa [J1,BEq.beq]using hc
   .cases hc
  .simp only[yAb]at h;subst h;have ha:fA P t=some false:=Af;rw[one hx ha,one hy ha]at hc;cases x<;>cases y<;>simp only[kO,reduceCtorEq]at hc ⊢
   simp only[J1,yCc,yAb]at hc;rw[<-hc];congr 1;rw[Bool.eq_iff_iff];simp
  .rename_i fs;split at h
   .cases h
   .rename_i hst;have ha:fA P t=some true:=Af;obtain rfl:=fin hx ha;obtain rfl:=fin hy ha;simp only[hst,yAx,yAN];have key:∀(fs:List Field) (off:Nat) (r:List CK) (b:Bool),VC (CL P d) P off fs=some r->kO r (xs.drop off) (ys.drop off)=some b->J2 (lC P d) P xs ys fs=some b:=by
     intro fs
     induction fs with
     |nil=>
      intro off r b hr hb;simp only[VC,yAb]at hr;subst hr;unfold J2;rw[aHc hb]
     |cons f fs ih=>
      intro off r b hr hb;simp only[VC]at hr;split at hr
      .cases hr
      .rename_i hn;have QX:¬f.name= "_" := λe=>hn (.inl e)
       have hn2:f.offset=off:=by
        rcases Nat.decEq f.offset off with e|e
        .exact absurd (.inr e) hn
        .exact e
       split at hr
       .rename_i ks n h1 h2;split at hr
        .rename_i hlen;split at hr
         .rename_i r' h3;simp only[yAb]at hr;subst hr;obtain⟨b1,b2,e1,e2,e3,e4,e5⟩:=aCG _ _ _ _ _ hb;obtain⟨hlen,hpos⟩:=hlen;have hpart:∀ {zs:Bw},ks.length<=(zs.drop off).length->∃x,mC P f.type zs off=some x/\NO P f.type x ((zs.drop off).take ks.length):=by
           intro zs hz;exact qk
          obtain⟨x1,p1,c1⟩:=hpart e4;obtain⟨y1,p2,c2⟩:=hpart e5;have q:=aCH d f.type ks x1 y1 _ _ b1 h1 c1 c2 e1;unfold J2;rw[yAI QX,hn2];simp only[p1,p2,q];rw[yBk,yBk,hlen]at e2;have q2:=ih (off+n) r' b2 h3 e2;exact pq
         .cases hr
        .cases hr
       .cases hr
    exact key fs.toList 0 ks b h (by simpa using hc)
  .rename_i len e;split at h
   .rename_i ks' n h1 h2;split at h
    .rename_i hlen;simp only[yAb]at h;subst h;have ha:fA P t=some true:=Af;obtain rfl:=fin hx ha;obtain rfl:=fin hy ha;simp only[h2];have key:∀(m i:Nat) (b:Bool),kO (List.replicate m ks').flatten (xs.drop (i*n)) (ys.drop (i*n))=some b->LS (lC P d e) P e n xs ys i m=some b:=by
      intro m
      induction m with
      |zero=>
       intro i b hb;unfold LS;simp only[List.replicate_zero,List.flatten_nil]at hb;rw[aHc hb]
      |succ m ih=>
       intro i b hb;rw[List.replicate_succ,yCN]at hb;obtain⟨b1,b2,e1,e2,e3,e4,e5⟩:=aCG _ _ _ _ _ hb;obtain⟨hlen,hpos⟩:=hlen;have hpart:∀ {zs:Bw},ks'.length<=(zs.drop (i*n)).length->∃x,mC P e zs (i*n)=some x/\NO P e x ((zs.drop (i*n)).take ks'.length):=by
        intro zs hz;exact qk
       obtain⟨x1,p1,c1⟩:=hpart e4;obtain⟨y1,p2,c2⟩:=hpart e5;have q:=aCH d e ks' x1 y1 _ _ b1 h1 c1 c2 e1;unfold LS;simp only[p1,p2,q];rw[yBk,yBk,hlen,<-yCw]at e2;have q2:=ih (i+1) b2 e2;exact pq
     exact key len 0 b (by simpa using hc)
    .cases h
   .cases h
  .cases h
theorem aCI{t:TypeId}{ks:List CK}{xs ys:Bw}{b:Bool}(hg:P.eqGuardType P.depth t=false)(h:CL P 12 t=some ks)(ha:fA P t=some true)(hc:kO ks xs ys=some b) :
  dZ P .eql t (.agg xs) (.agg ys)=some (.bool b):=by
 have:=aCH 12 t ks _ _ _ _ b h (.inl ⟨ha,rfl⟩) (.inl ⟨ha,rfl⟩) hc;simp only[dZ,rF,hg,yAx,yAN,this]
end
end
section
section
variable{α:Type}{e:Em α}{k:Nat}{tok:Tok}
def Em.Z7(e:Em α):List PD->Option (List α)
 | []=>some []
 |p::ps=>match e.dec p,e.Z7 ps with
  |some x,some xs=>some (x::xs)
  |_,_=>none
@[simp] theorem aZJ:e.Z7 []=some []:=rfl
@[simp] theorem aZK{p:PD}{ps:Bw}:e.Z7 (p::ps)=(match e.dec p,e.Z7 ps with|some x,some xs=>some (x::xs)|_,_=>none):=rfl
end
end
section
open Go.RowKit
def LR(pl:TypeId->Bool)(P:Program):Nat->List Field->Option Nat
 |off,[]=>some off
 |off,f::fs=>if f.offset=off/\pl f.type=true then LR pl P (off+P.cellsOf f.type) fs else none
def tK(P:Program):Nat->TypeId->Bool
 |0,_=>false
 |d+1,t=>match P.underlying t with
  |some .bool|some (.int _)|some .string=>P.cellsOf t==1
  |some (.slice e)=>P.cellsOf t==1&&tK P d e&&decide (0<P.cellsOf e)
  |some (.struct fs)=>LR (tK P d) P 0 fs.toList==some (P.cellsOf t)
  |some (.array n e)=>tK P d e&&P.cellsOf t==n*P.cellsOf e
  |_=>false
def CJ(T:TypeId->List PD->Prop):List Field->List PD->Prop
 | [],ps=>ps=[]
 |f::fs,ps=>∃a b,ps=a++b/\T f.type a/\CJ T fs b
def rD(P:Program)(t:TypeId)(ps:List PD):PD:=match fA P t with
 |some true=>.agg ps
 |_=>ps.headD (.aK [])
def Typed(P:Program):Nat->TypeId->List PD->Prop
 |0,_,_=>False
 |d+1,t,ps=>match P.underlying t with
  |some .bool=>∃b,ps=[.bool b]
  |some (.int k)=>∃n,ps=[.int k n]/\(Lit.int k n).wf=true
  |some .string=>∃s,ps=[.str s]/\s.length<=maxLen
  |some (.slice e)=>∃xs:List (List PD),xs.length<=maxLen/\(∀x∈xs,Typed P d e x)/\ps=[.slice (sz (P.cellsOf e) xs) (xs.map (rD P e)) .any]
  |some (.struct fs)=>CJ (Typed P d) fs.toList ps
  |some (.array n e)=>∃xs:List (List PD),xs.length=n/\(∀x∈xs,Typed P d e x)/\ps=xs.flatten
  |_=>False
theorem CJ.length{P:Program}{d:Nat}(ih:∀t ps,tK P d t=true->Typed P d t ps->ps.length=P.cellsOf t):∀(fs:List Field) (off n:Nat) (ps:List PD),LR (tK P d) P off fs=some n->CJ (Typed P d) fs ps->off+ps.length=n
 | [],off,n,ps,h,ht=>by
   simp only[LR,yAb]at h;simp only[CJ]at ht;subst ht h;rfl
 |f::fs,off,n,ps,h,ht=>by
  simp only[LR]at h;split at h
  .rename_i hf;obtain⟨a,b,rfl,ha,hb⟩:=ht;have h1:=ih _ _ hf.2 ha;have h2:=CJ.length ih fs _ n b h hb;simp only[yAa];omega
  .cases h
theorem Typed.length{P:Program}:∀(d:Nat) (t:TypeId) (ps:List PD),tK P d t=true->Typed P d t ps->ps.length=P.cellsOf t
 |0,_,_,h,_=>xz
 |d+1,t,ps,h,ht=>by
  unfold tK at h;unfold Typed at ht;split at h<;>rename_i hu<;>try simp only[hu]at ht
  .obtain⟨b,rfl⟩:=ht;simp at h;simp[h]
  .obtain⟨b,rfl,_⟩:=ht;simp at h;simp[h]
  .obtain⟨b,rfl,_⟩:=ht;simp at h;simp[h]
  .obtain⟨xs,_,_,rfl⟩:=ht;simp at h;simp[h]
  .simp only[yBA]at h;have:=CJ.length (Typed.length d) _ 0 _ ps h ht;omega
  .rename_i n e;simp only[yAr,yBA]at h;obtain⟨xs,h1,h2,rfl⟩:=ht;rw[h.2,<-h1];have key:∀(xs:List (List PD)),(∀x∈xs,Typed P d e x)->xs.flatten.length=xs.length*P.cellsOf e:=by
    intro xs
    induction xs with
    |nil=>intro _;simp
    |cons x xs ih=>
     intro hx;rw[yCN,yAa,Typed.length d e x h.1 (hx x wz),ih (λy hy=>hx y Aw),yAK,yCw];omega
   exact key xs h2
section
variable{H:Type}{enc:TypeId×Value->H}{P:Program}{w:World}{base:Nat}{sp:Nat->Bool}{held:Bool}
structure lB (w:World) (cs:List Value) (ps:List PD):Prop where
 QW:aJ (.start w) cs ps
 one:∀v∈cs,v.oneCell'=true
theorem lB.nil:lB w [] []:=⟨⟨rfl,wz⟩,wz⟩
theorem lB.single{v:Value}{p:PD}(h:VR (.start w) v p)(ho:v.oneCell'=true):lB w [v] [p]:=
 ⟨⟨rfl,λi u d h1 h2=>by cases i with
   |zero=>simp at h1 h2;subst h1 h2;exact h
   |succ i=>simp at h1⟩,yz⟩
theorem lB.append{a b:Bz}{ps qs:Bw}(h:lB w a ps)(k:lB w b qs):lB w (a++b) (ps++qs):=
 ⟨h.QW.append k.QW,λv hv=>(yBn.1 hv).elim (h.one v) (k.one v)⟩
theorem lB.agg{cs:Bz}{ps:Bw}(h:lB w cs ps):VR (.start w) (.agg cs.toArray) (.agg ps):=.agg cs ps h.QW.1 h.one h.QW.2
theorem aOp{t:TypeId}{d:Nat}{ps:Bw}(h:tK P d t=true)(ht:Typed P d t ps):(rD P t ps).cells=ps:=by
 cases d with
 |zero=>cases h
 |succ d=>
  unfold tK at h;unfold Typed at ht;unfold rD fA;split at h<;>rename_i hu<;>try simp only[hu]at ht ⊢
  .obtain⟨b,rfl⟩:=ht;rfl
  .obtain⟨b,rfl,_⟩:=ht;rfl
  .obtain⟨b,rfl,_⟩:=ht;rfl
  .obtain⟨xs,_,_,rfl⟩:=ht;rfl
  .rfl
  .rfl
theorem aOq{fuel:Nat}{t:TypeId}{cs:Bz}{x:DataW H×List MemPlace}(ht:P.underlying t=some .bool)(h:DataW.trod enc P w base sp held fuel t cs=some x):∃b,cs=[.bool b]:=by
 cases fuel with
 |zero=>simp[DataW.trod]at h
 |succ n=>
  unfold DataW.trod at h;rw[ht]at h;split at h<;>simp_all
theorem Z6:∀(fuel d:Nat) (t:TypeId) (cs:List Value) (x:DataW H×List MemPlace),DataW.trod enc P w base sp held fuel t cs=some x->tK P d t=true->∃ps,Typed P d t ps/\lB w cs ps
 |_,0,_,_,_,_,h=>xz
 |fuel,d+1,t,cs,x,hx,h=>by
  unfold tK at h;split at h<;>rename_i hu<;>try simp only[Typed,hu]
  .obtain⟨b,rfl⟩:=aOq hu hx;exact⟨_,⟨b,rfl⟩,lB.single (.bool _) rfl⟩
  .rename_i k;obtain⟨n,rfl,_,hw⟩:=DataW.trod_int hu hx;exact⟨_,⟨n,rfl,hw⟩,lB.single (.int _ _) rfl⟩
  .obtain⟨s,rfl,_,hs⟩:=DataW.trod_string hu hx;refine⟨_,⟨s.data.toList,rfl,by rw[yCb];exact hs⟩,lB.single ?_ rfl⟩;exact qm
  .rename_i e;simp only[yAr,yBx]at h;obtain⟨⟨_,he⟩,hpos⟩:=h;rcases DataW.trod_slice hu hx with⟨rfl,_⟩ | ⟨a,len,cap,elems,rest,n,rfl,rfl,hrest⟩
   .exact⟨_,⟨[],wz,wz,rfl⟩,lB.single (.slice none 0 0 0 [] .any [] rfl (yAk _) (yAF _) wz rfl wz wz wz trivial) rfl⟩
   .obtain⟨_,hlc,hcm,hel,hall,_,_⟩:=hrest.2;have key:∀(k i:Nat),i+k=len->∃(ys:List (List PD)) (fl:List Value),ys.length=k/\(∀y∈ys,Typed P d e y)/\lB w fl ys.flatten/\fl.length=k*P.cellsOf e /\
      ∀(j:Nat) (v:Value),fl[j]?=some v->w.cell? (a.add (i*P.cellsOf e+j))=some v:=by
     intro k
     induction k with
     |zero=>intro i _;exact⟨[],[],rfl,wz,lB.nil,wz,wz⟩
     |succ k ih=>
      intro i hi;obtain⟨ys,fl,h1,h2,h3,h4,h5⟩:=ih (i+1) xb;have h6:=hall i xb;have hlt:i<elems.length:=xb;rw[yAh hlt,Option.bind_eq_some_iff]at h6;obtain⟨vs,h7,h8⟩:=h6;obtain⟨_,h9,h10⟩:=World.cells?_some h7;obtain⟨qs,h11,h12⟩:=Z6 n d e _ _ h8 he;refine⟨qs::ys,vs++fl,by simp[h1],by simpa using⟨h11,h2⟩,by rw[yCN];exact h12.append h3,by rw[yAa,h9,h4,yCw];omega,λj v hv=>?_⟩;rcases yBy j vs.length with hj|hj
      .rw[yAg hj]at hv;have:=h10 j xb;rw[NN]at this;rw[this,hv]
      .rw[yCp hj]at hv;have:=h5 _ v hv;rw[h9]at this hj;rw[<-this,yCw]
       congr 2
       omega
    obtain⟨ys,fl,h1,h2,h3,h4,h5⟩:=key len 0 xb;have hcells:∀y∈ys,(rD P e y).cells=y:=λy hy=>aOp he (h2 y hy)
    have hflat:(ys.map (rD P e)).flatMap PD.cells=ys.flatten:=by
     have:∀(ys:List (List PD)),(∀y∈ys,(rD P e y).cells=y)->(ys.map (rD P e)).flatMap PD.cells=ys.flatten:=by
      intro ys
      induction ys with
      |nil=>intro _;rfl
      |cons y ys ih=>
       intro hy;rw[yB,yBg,yCN,hy y wz,ih (λz hz=>hy z (by simp[hz]))]
     exact this ys hcells
    refine⟨_,⟨ys,xb,h2,rfl⟩,lB.single (.slice (some a) len cap _ _ .any fl (by simp[h1]) hlc hcm ?_ ?_ h3.one ?_ ?_ trivial) rfl⟩
    .intro x hx;obtain⟨y,hy,rfl⟩:=yAw.1 hx;rw[hcells y hy,Typed.length d e y he (h2 y hy),aCF (List.ne_nil_of_mem hy)]
    .rw[h4];cases ys with
     |nil=>simp at h1;subst h1;simp
     |cons y ys=>simp[sz]
    .intro j v hv;have:=h5 j v hv;rw[Nat.zero_mul,yAp]at this;exact⟨a,rfl,this,aHb _⟩
    .intro j v p hv hp;rw[hflat]at hp;exact h3.QW.2 j v p hv hp
  .rename_i fs;simp only[yBA]at h;obtain⟨xs,n,rfl,_,hl,hn,hf⟩:=DataW.trod_struct hu hx;have key:∀(gs:List Field) (i:Nat) (off m:Nat),gs=fs.toList.drop i->LR (tK P d) P off gs=some m->m<=cs.length->off<=m/\∃ps,CJ (Typed P d) gs ps/\lB w ((cs.drop off).take (m-off)) ps:=by
    intro gs
    induction gs with
    |nil=>
     intro i off m _ hp hm;simp only[LR,yAb]at hp;subst hp;exact⟨yAk _,[],rfl,by simpa using lB.nil⟩
    |cons g gs ih=>
     intro i off m hg hp hm;simp only[LR]at hp;split at hp
     .rename_i hc;have hgi:fs[i]?=some g:=by
       have:(fs.toList.drop i)[0]?=some g:=by rw[<-hg];rfl
       exact bn
      have hgs:gs=fs.toList.drop (i+1):=by
       rw[<-List.tail_drop,<-hg];rfl
      obtain⟨h1,ps,h2,h3⟩:=ih (i+1) _ m hgs hp hm;have h4:=hf i g hgi;have hlt:i<xs.length:=by
       rw[hn];exact(yDh.1 hgi).1
      rw[yAh hlt]at h4;obtain⟨qs,h5,h6⟩:=Z6 n d g.type _ _ h4 hc.2;refine⟨xb,qs++ps,⟨qs,ps,rfl,h5,h2⟩,?_⟩;rw[hc.1]at h6;have e:(cs.drop off).take (m-off)=(cs.drop off).take (P.cellsOf g.type)++(cs.drop (off+P.cellsOf g.type)).take (m-(off+P.cellsOf g.type)):=by
       have:m-off=P.cellsOf g.type+(m-(off+P.cellsOf g.type)):=xb;rw[this,List.take_add,yBk]
      rw[e];exact h6.append h3
     .cases hp
   obtain⟨_,ps,h1,h2⟩:=key fs.toList 0 0 _ wz h xb;refine⟨ps,h1,?_⟩;simpa [<-hl]using h2
  .rename_i n e;simp only[yAr,yBA]at h;obtain⟨xs,m,rfl,_,hl,hn,hf⟩:=DataW.trod_array hu hx;have key:∀(k i:Nat),i+k=n->∃ys:List (List PD),ys.length=k/\(∀y∈ys,Typed P d e y)/\lB w (cs.drop (i*P.cellsOf e)) ys.flatten:=by
    intro k
    induction k with
    |zero=>
     intro i hi;have:cs.drop (i*P.cellsOf e)=[]:=yAs (by rw[hl,h.2];simp at hi;subst hi;omega);exact⟨[],rfl,wz,by rw[this];exact lB.nil⟩
    |succ k ih=>
     intro i hi;obtain⟨ys,h1,h2,h3⟩:=ih (i+1) xb;have h4:=hf i xb;have hlt:i<xs.length:=xb;rw[yAh hlt]at h4;obtain⟨qs,h5,h6⟩:=Z6 m d e _ _ h4 h.1;refine⟨qs::ys,by simp[h1],by simpa using⟨h5,h2⟩,?_⟩;rw[yCN];have e':cs.drop (i*P.cellsOf e)=(cs.drop (i*P.cellsOf e)).take (P.cellsOf e)++cs.drop ((i+1)*P.cellsOf e):=by
      rw[yCw,<-yBk,yCx]
     rw[e'];exact h6.append h3
   obtain⟨ys,h1,h2,h3⟩:=key n 0 xb;exact⟨_,⟨ys,h1,h2,rfl⟩,zf⟩
  .cases h
end
end
section
open Go.RowKit
section
variable{H:Type}{enc:TypeId×Value->H}{P:Program}{w:World}{base:Nat}{sp:Nat->Bool}{held:Bool}
theorem aNO{n:Nat}{t:TypeId}{v:Value}{d:DataW H}{ms:List MemPlace}(hp:tK P n t=true)(hv:Value.okWide P w .any base t v)(h:DataW.Trod enc P w 0 sp held t v d ms) :
  ∃qs,Typed P n t qs/\VR (.start w) v (rD P t qs):=by
 obtain⟨fuel,h⟩:=h;obtain⟨qs,h1,h2⟩:=Z6 fuel n t _ _ h hp;refine⟨qs,h1,?_⟩;have hlen:=Typed.length n t qs hp h1;cases n with
 |zero=>cases hp
 |succ n=>
  have cell:fA P t=some false->(∀cs,v≠.agg cs)->VR (.start w) v (rD P t qs):=λha hna=>by
   have hc:v.cells=#[v]:=by
    cases v<;>first|rfl|exact absurd rfl (hna _)
   rw[hc]at h2;obtain⟨hl,hr⟩:=h2.QW
   match qs,hl with
   | [q],_=>
     have:=hr 0 v q rfl rfl;simpa only[rD,ha,List.headD_cons]using this
  have row:fA P t=some true->(∃cs,v=.agg cs)->VR (.start w) v (rD P t qs):=λha ⟨cs,e⟩=>by
   subst e;have:=h2.agg;simpa only[rD,ha,Value.cells]using this
  unfold tK at hp;unfold Value.okWide at hv;split at hp<;>rename_i hu
  .exact cg
  .exact cg
  .exact cg
  .exact cg
  .exact qg
  .exact qg
  .cases hp
end
section
variable{P:Program}
theorem aGV{d:Nat}{t:TypeId}{k:IntKind}{qs:Bw}(hu:P.underlying t=some (.int k))(h:Typed P (d+1) t qs):∃n,qs=[.int k n]/\(Lit.int k n).wf=true:=by
 simpa only[Typed,hu]using h
theorem aNY{d:Nat}{t:TypeId}{fs:Array Field}{qs:Bw}(hu:P.underlying t=some (.struct fs))(h:Typed P (d+1) t qs):CJ (Typed P d) fs.toList qs:=by
 simpa only[Typed,hu]using h
theorem aN0{t:TypeId}{qs:Bw}(ha:fA P t=some true):rD P t qs=.agg qs:=by simp only[rD,ha]
theorem aGU{T:TypeId->List PD->Prop}{f:Field}{fs:List Field}{ps:Bw}(h:CJ T (f::fs) ps):∃a b,ps=a++b/\T f.type a/\CJ T fs b:=h
theorem aNZ{T:TypeId->List PD->Prop}{ps:Bw}(h:CJ T [] ps):ps=[]:=h
theorem aNU{c:Cx}:aJ c [] []:=⟨rfl,wz⟩
theorem aNT{c:Cx}{v:Value}{p:PD}{vs:Bz}{ps:Bw}(h:VR c v p)(hs:aJ c vs ps):aJ c (v::vs) (p::ps):=
 ⟨by simp[hs.1],λi u d hu hd=>by
  cases i with
  |zero=>simp at hu hd;subst hu hd;exact h
  |succ i=>exact hs.2 i u d yx zc⟩
end
end
section
section
variable{α:Type}{l r:List α}{x y:α}{n:Nat}
end
end
@[simp] theorem aZI{α:Type}{k:Nat}{xs:List α}:sz (sz k xs) xs=sz k xs:=by
  unfold sz;split<;>rfl
def iL(σ:List U)(tok:Tok)(e:TypeId)(k n:Nat):Prop:=(n=0/\tok=.full)\/(0<n/\∃id,tok=.own id/\σ[id]?=some (.own e k n))
def Tok.not(tok:Tok)(id:Nat):Prop:=tok≠.own id
theorem iL.LQ{σ σ':Bv}{tok:Tok}{e:TypeId}{k n:Nat}(h:iL σ tok e k n)(hk:∀id o,tok=.own id->σ[id]?=some o->σ'[id]?=some o):iL σ' tok e k n:=by
 rcases h with h | ⟨h0,id,h1,h2⟩
 .exact .inl h
 .exact .inr ⟨h0,id,h1,hk id _ h1 h2⟩
theorem iL.more{σ τ:Bv}{tok:Tok}{e:TypeId}{k n:Nat}(h:iL σ tok e k n):iL (σ++τ) tok e k n:=
 h.LQ λid o _ h=>by
  rw[yAg (yA.1 h).1];exact h
theorem JZ{P:Program}{σ:Bv}{t e:TypeId}{k b s:Nat}{xs:Bw}{p:PD}{tk tok:Tok}(hu:P.underlying t=some (.slice e))(hi:J0 P e=some (k,b))(hs:xs=[]\/s=k)(hr:iL σ tok e k xs.length)
  (hm:xs.length+1<=100000000000000) (hb:(xs.length+1)*b<=140737488355328) :
  ∃bY σ',dV P 0 σ t (.slice s xs tok) (.slice k [p] tk)=some (.slice k (xs++[p]) bY,σ')/\iL σ' bY e k (xs.length+1)/\(∀id o,tok≠.own id->σ[id]?=some o->σ'[id]?=some o)/\(∀id,bY=.own id->tok=.own id\/id=σ.length):=by
 unfold J0 at hi;split at hi
 .rename_i i h1;split at hi
  .rename_i z h2;split at hi
   .rename_i h3;simp only[yAb,yAc]at hi;obtain⟨rfl,rfl⟩:=hi;have hs':xs.length=0\/s=i.size:=hs.imp (λh=>ya) (λh=>h);have e1:[p].length=1:=rfl;have hmm:xs.length+1<=maxLen:=zx;rcases hr with⟨hn,rfl⟩ | ⟨hpos,id,rfl,hid⟩
    .refine⟨.own σ.length,σ++[.own e i.size (xs.length+1)],?_,.inr ⟨xb,_,rfl,yAB⟩,λid o _ h=>?_,λid h=>?_⟩
     .simp only[dV,hu,h1,h2,e1,hs',h3.2,h3.1,hmm,hb,or_true,and_self,yAM,Nat.one_ne_zero,yAN]
     .rw[yAg (yA.1 h).1];exact h
     .right;simpa using h.symm
    .have hlt:=(yA.1 hid).1;have hsz:s=i.size:=hs'.resolve_left xb;refine⟨.own id,σ.set id (.own e i.size (xs.length+1)),?_,.inr ⟨xb,id,rfl,by rw[yAj hlt]⟩,λj o hj h=>?_,λj h=>.inl h⟩
     .simp only[dV,hu,h1,h2,e1,h3.2,h3.1,hmm,hb,or_true,and_self,yAM,Nat.one_ne_zero,yAN,hsz,yAF,hid]
     .have hne:id≠j:=λe=>hj (by rw[e])
      rw[yAd hne];exact h
   .cases hi
  .cases hi
 .cases hi
section
def VA:Op->Bool
 |.box ..=>true
 |.call { callee:=.builtin .append,.. }=>true
 |.call { callee:=.builtin .copy,.. }=>true
 |_=>false
def LP(ops:Array Oper):Bool:=tJ ops.toList [] λms=>
 (List.range ops.size).all λi=>!eN VA ops.toList i||j9 ops.toList ms i
section
variable{P:Program}{E:aE}{fl:Nat}{fr:Bw}{σ:Bv}
theorem aG9(hU:aF E){tg:FuncId ⊕ Nat}{args:Bw}{x:PD×Bv}(h:eU E fl tg args σ=some x):cN E fl tg args σ=some x:=by
 cases tg with
 |inr id=>cases h
 |inl f=>
  simp only[eU]at h;split at h
  .rename_i g hg;split at h
   .rename_i p hp;simp only[yAb]at h;subst h;simp only[cN,hg];exact hU f g args p hg hp fl σ
   .cases h
  .cases h
theorem aHa(hU:aF E){op:Op}{x:PD×Bv}(h:bI P (eU E) fl fr σ op=some x):bI P (cN E) fl fr σ op=some x:=by
 unfold bI at *;cases hc:dI fr op with
 |some q=>
  obtain⟨tg,args⟩:=q;simp only[hc]at h ⊢;exact aG9 hU h
 |none=>
  simp only[hc]at h ⊢;exact h
theorem VB(hU:aF E){ops:Cb}:∀(l:List Oper) (i:Nat) (fr:List PD) (σ:List U) (x:Bw×List U),ops.toList.drop i=l->LP ops=true ->
  dM P (eU E) fl ops l fr σ=some x->mB P (cN E) fl ops (flags ops i l) fr σ=some x
 | [],_,_,_,_,_,_,h=>h
 |o::l,i,fr,σ,x,hd,hm,h=>by
  have ho:ops.toList[i]?=some o:=by
   exact uj
  have hd':ops.toList.drop (i+1)=l:=Be;have hi:i<ops.size:=by
   have:=(yA.1 ho).1;exact bn
  have hown:VA o.op=false\/CI ops i=true:=by
   have hm':=hm;rw[LP,nP]at hm';exact ff
  simp only[dM]at h;simp only[flags,mB];split at h
  .rename_i hw;rw[yAJ hw];split at h
   .rename_i p σ1 hp;cases hf:(!cI o.op||CI ops i)with
    |true=>
     simp only[aHa hU hp];exact VB hU l (i+1) _ _ _ hd' hm h
    |false=>
     simp only[yDA,Bool.not_eq_false']at hf;obtain⟨eK,pD⟩:=hf;rw[pD]at hown;have hop:VA o.op=false:=by simpa using hown
     obtain⟨e1,e2⟩:=NL (P:=P) hU (bU:=max fl σ.length) (op:=o.op) (by
      cases hq:o.op with
      |box t x=>rw[hq]at hop;cases hop
      |call c=>
       exact gv
      |_=>rfl) eK hp
     simp only at e2;subst e2;simp only[e1,yCh,yAl];exact VB hU l (i+1) _ _ _ hd' hm h
   .cases h
  .rename_i hw;rw[yAI hw];exact VB hU l (i+1) _ _ _ hd' hm h
theorem WL.kA{rd:Option Nat}{ms:List Nat}{Q:PO->Prop}{ops:Cb}{id:Nat}(hU:aF E)(_hd:LO ops=true)(hs:(vJ ops&&LP ops)=true)(h:SQ P (eU E) fl ops ops.toList fr σ (λfr' σ'=>Q ⟨.normal,fr',ms,σ'⟩)) :
  Wp P E rd (.region id ops true) fl fr ms σ Q:=by
 simp only[yAr,QV]at hs;obtain⟨fr',σ',h1,h2⟩:=h.ex;exact .draw hs.1 (VB hU _ 0 _ _ _ wz hs.2 h1) h2
theorem WL.kB{rd:Option Nat}{ms:List Nat}{Q:PO->Prop}{ops:Cb}{id:Nat}{y:Code}(hU:aF E)(_hd:LO ops=true)(hs:(vJ ops&&LP ops)=true)(h:SQ P (eU E) fl ops ops.toList fr σ (λfr' σ'=>Wp P E rd y fl fr' ms σ' Q)) :
  Wp P E rd (.seq (.region id ops true) y) fl fr ms σ Q:=by
 simp only[yAr,QV]at hs;obtain⟨fr',σ',h1,h2⟩:=h.ex;exact .seq (.draw hs.1 (VB hU _ 0 _ _ _ wz hs.2 h1) (.normal h2))
end
end
section
def QT(ops:Array Oper):Bool:=ops.toList.all λo=>!bZ o.op||o.guard.isNone
def aCC(ops:Array Oper):Bool:=tJ ops.toList [] λms=>
 JX ops ms&&(List.range ops.size).all λk=>!eN eO ops.toList k||(List.range ops.size).all λi=>!eN dA ops.toList i||!loose ms i k
section
variable{P:Program}{E:aE}{fl:Nat}{fr:Bw}{σ:Bv}
theorem aG2(hU:aF E){bU:Nat}{σ2:Bv}{op:Op}{x:PD×Bv}(hop:(match op with
 |.box ..=>false
 |.call { callee:=.builtin .append,.. }=>false
 |.call { callee:=.builtin .copy,.. }=>false
 |_=>true)=true) (hm:cI op=true) (h:bI P (eU E) fl fr σ op=some x):bI P (cN E) bU fr σ2 op=some (x.1,σ2)/\x.2=σ:=by
 refine⟨?_,(NL hU (bU:=0) hop hm h).2⟩;unfold bI at *;cases hc:dI fr op with
 |some q=>
  obtain⟨tg,args⟩:=q;simp only[hc]at h ⊢;cases tg with
  |inr id=>cases h
  |inl f=>
   simp only[eU]at h;split at h
   .rename_i g hg;split at h
    .rename_i p hp;simp only[yAb]at h;subst h;simp only[cN,hg];exact hU f g args p hg hp bU σ2
    .cases h
   .cases h
 |none=>
  exact cu
theorem aOl{t:TypeId}{a p:PD}(hs:List U)(h:j8 P σ t a=some p):j8 P (σ++hs) t a=some p:=
 aG3 h λid e=>by
  rw[yAg (aG4 h e)]
theorem aOm{t:TypeId}{a p:PD}{σ':Bv}(hs:List U)(h:pC P fl σ t a p=some σ'):pC P fl (σ++hs) t a p=some (σ'++hs):=by
 unfold pC at h ⊢;split at h
 .rename_i id off
  by_cases h1:fl<=id
  .rw[yAJ h1]at h ⊢;cases hq:σ[id]? with
   |none=>simp[hq]at h
   |some o=>
    have hlt:id<σ.length:=(yA.1 hq).1;rw[yAg hlt,hq];rw[hq]at h;cases o with
    |box q=>
     cases hz:bS P t with
     |none=>rw[hz]at h;cases h
     |some n=>
      rw[hz]at h;simp only at h ⊢;split at h
      .rename_i hc;rw[yAJ hc];cases hset:q.setCells off p.cells with
       |none=>rw[hset]at h;cases h
       |some q'=>
        rw[hset]at h;exact rq
      .cases h
    |_=>cases h
  .rw[yAI h1]at h;cases h
 .rename_i id ver off
  by_cases h1:fl<=id
  .rw[yAJ h1]at h ⊢;cases hq:σ[id]? with
   |none=>simp[hq]at h
   |some o=>
    have hlt:id<σ.length:=(yA.1 hq).1;rw[yAg hlt,hq];rw[hq]at h;cases o with
    |row e sz fE cs=>
     cases hz:bS P t with
     |none=>rw[hz]at h;cases h
     |some n=>
      rw[hz]at h;simp only at h ⊢;split at h
      .rename_i hc;rw[yAJ hc];exact rq
      .cases h
    |_=>cases h
  .rw[yAI h1]at h;cases h
 .cases h
theorem U9(hU:aF E){n:Nat}{ops:Cb}(ms:List Nat)(hsh:∀(i:Nat) o,ops[i]?=some o->(cW o.op||dA o.op||bZ o.op||iW o.op||cX o.op)=true)(hno:HM ops=true)(hsu:QT ops=true) :
  ∀(l:List Oper) (i:Nat) (fr:List PD) (σ:List U) (x:Bw×List U),ops.toList.drop i=l->dM P (eU E) fl ops l fr σ=some x ->
   ∃hs tr,kN P l=some hs/\fY P (bV P E n) fl ops ms i σ.length l fr (σ++hs)=some (tr,x.1,x.2)
 | [],_,fr,σ,x,_,h=>by
   simp only[dM,yAb]at h;subst h;exact⟨[],[],rfl,by simp[fY]⟩
 |o::l,i,fr,σ,x,hd,h=>by
  have ho:ops[i]?=some o:=by
   exact uj
  have hd':ops.toList.drop (i+1)=l:=Be;have hmem:o∈ops.toList:=yBQ.2 (yCI ho);have hshape:=hsh i o ho;have hown:=yAn.1 hno o hmem;have hsure:=yAn.1 hsu o hmem;simp only[dM]at h
  by_cases hal:bZ o.op=true
  .have hg:o.guard=none:=by
    rw[hal]at hsure;simpa using hsure
   have hw:Region.wanted o (aY ops fr)=true:=by simp[Region.wanted,hg]
   rw[yAJ hw]at h;obtain⟨t,ht⟩:∃t,o.op=.alloc t:=by
    unfold bZ at hal;split at hal
    .rename_i t e;exact⟨t,e⟩
    .cases hal
   rw[ht]at h;have hst:bI P (eU E) fl fr σ (.alloc t)=(match dS P t with|some p=>if p.cells.all PD.plain then some (.ptr σ.length 0,σ++[.box (boxed t p)])else none|none=>none):=rfl;rw[hst]at h;cases hz:dS P t with
   |none=>rw[hz]at h;cases h
   |some p0=>
    rw[hz]at h;simp only at h
    by_cases hp:p0.cells.all PD.plain=true
    .rw[yAJ hp]at h;simp only at h;obtain⟨hs,tr,e1,e2⟩:=U9 hU (n:=n) ms hsh hno hsu l (i+1) _ _ x hd' h;refine⟨.box (boxed t p0)::hs,⟨fr,σ++.box (boxed t p0)::hs,.ptr σ.length 0,mT fr o.op⟩::tr,?_,?_⟩
     .unfold kN;rw[ht];simp only[hz,e1,hp,yAM]
     .simp only[fY,hw,yAM,hal];have hA:cW o.op=false:=by rw[ht];rfl
      have hp':eA P (bV P E n) fl (j9 ops.toList ms i) σ.length fr (σ++.box (boxed t p0)::hs) o.op=some (.ptr σ.length 0,σ++.box (boxed t p0)::hs):=by
       unfold eA;rw[hA,hal];simp
      rw[hp'];simp only;rw[yAa,yBb,yAi,List.singleton_append]at e2;rw[e2]
    .rw[yAI hp]at h;cases h
  .simp only[yBW]at hal;have hho:∀hs,kN P l=some hs->kN P (o::l)=some hs:=λhs e=>by
    unfold kN;split
    .rename_i t ht;rw[ht]at hal;cases hal
    .exact e
   by_cases hw:Region.wanted o (aY ops fr)=true
   .rw[yAJ hw]at h;cases hp:bI P (eU E) fl fr σ o.op with
    |none=>rw[hp]at h;cases h
    |some q=>
     obtain⟨p,σ1⟩:=q;rw[hp]at h;simp only at h;obtain⟨hs,tr,e1,e2⟩:=U9 hU (n:=n) ms hsh hno hsu l (i+1) _ _ x hd' h;have key:eA P (bV P E n) fl (j9 ops.toList ms i) σ.length fr (σ++hs) o.op=some (p,σ1++hs)/\σ1.length=σ.length:=by
      have hpd:=QU (P:=P) (call:=bV P E n) (fl:=fl) (k:=σ.length) (free:=j9 ops.toList ms i) (fr:=fr) (σ:=σ++hs) hshape hal;rw[hpd]
      by_cases hm:cI o.op=true
      .obtain⟨_,e3⟩:=aG2 (P:=P) hU (bU:=fl) (σ2:=σ++hs) hown hm hp;simp only at e3;subst e3;have e4:=λf=>NM (n:=n) (aG2 (P:=P) hU (bU:=f) (σ2:=σ1++hs) hown hm hp).1
       simp only at e4;cases(!cI o.op||j9 ops.toList ms i)with
       |true=>exact⟨e4 fl,rfl⟩
       |false=>
        simp only;rw[e4];simp
      .simp only[yBW]at hm;have hm2:=hm;rw[hm];simp only[yBR,yCL];rw[aG5 (call':=eU E) hm];unfold bI pop at hp ⊢;have hcal:dI fr o.op=none:=by
        cases hop:o.op with
        |call c=>
         obtain⟨callee,args,ts⟩:=c;rw[hop]at hm2;cases callee with
         |value f=>simp[cI]at hm2
         |invoke r m=>rfl
         |builtin b=>rfl
        |_=>rfl
       rw[hcal]at hp ⊢;simp only at hp ⊢;cases hv:dD P fr o.op with
       |some q=>
        rw[hv]at hp;exact eo
       |none=>
        rw[hv]at hp;simp only at hp ⊢;have aOn:dA o.op=true\/iW o.op=true\/eO o.op=true\/cW o.op=true:=by
         simp only[hal,cX,hm2,yCM,yBf]at hshape;rcases hshape with((h|h)|h)|h
         .exact .inr (.inr (.inr h))
         .exact .inl h
         .exact .inr (.inl h)
         .exact .inr (.inr (.inl h))
        rcases aOn with hl|hl|hl|hl
        .cases hop:o.op with
         |load t y=>
          rw[hop]at hp;simp only[cK]at hp ⊢;cases he:aT fr y with
          |none=>rw[he]at hp;cases hp
          |some a=>
           rw[he]at hp;simp only at hp ⊢;cases hlo:j8 P σ t a with
           |none=>rw[hlo]at hp;cases hp
           |some q=>
            rw[hlo]at hp;rw[aOl hs hlo];exact eo
         |convert s d y=>
          rw[hop]at hp;simp only[cK]at hp ⊢;split at hp
          .rename_i htc;rw[yAJ htc];split at hp
           .rename_i ad had;split at hp
            .exact ov
            .split at hp
             .rename_i q hq;obtain⟨xs,hxs⟩:=aCD hq;rw[aG6 (σ':=σ++hs) hq (λid hid=>yAg (aG7 hxs hid))];exact ov
             .cases hp
           .cases hp
          .cases hp
         |_=>rw[hop]at hl;simp[dA]at hl
        .cases hop:o.op with
         |buildSlice t len parts=>
          rw[hop]at hp;simp only[cK]at hp ⊢;cases hps:rE fr parts.toList with
          |none=>rw[hps]at hp;cases hp
          |some ps=>
           rw[hps]at hp;simp only at hp ⊢;cases hq:HN P t len (List.map (λq=>(q.fst,q.snd.strip)) ps)with
           |none=>rw[hq]at hp;cases hp
           |some q=>
            rw[hq]at hp;exact eo
         |makeSlice t x y=>
          rw[hop]at hp hl;obtain⟨q,hq⟩:=aCE (P:=P) hl;simp only[hq]at hp ⊢;cases q with
          |none=>cases hp
          |some q=>
           simp only[yAC,yAb,yAc]at hp ⊢;obtain⟨rfl,rfl⟩:=hp;exact⟨⟨rfl,rfl⟩,rfl⟩
         |_=>rw[hop]at hl;simp[iW]at hl
        .cases hop:o.op with
         |store t y z=>
          rw[hop]at hp;simp only[cK]at hp ⊢;cases he:aT fr y with
          |none=>rw[he]at hp;cases hp
          |some a=>
           cases hez:aT fr z with
           |none=>rw[he,hez]at hp;cases hp
           |some b=>
            rw[he,hez]at hp;simp only at hp ⊢;cases hst:pC P fl σ t a b with
            |none=>rw[hst]at hp;cases hp
            |some q=>
             rw[hst]at hp;rw[aOm hs hst];simp only[yAb,yAc]at hp ⊢;obtain⟨rfl,rfl⟩:=hp;refine⟨⟨rfl,rfl⟩,?_⟩;unfold pC at hst;split at hst
             .split at hst
              .exact ec
              .cases hst
             .exact ec
             .cases hst
         |_=>rw[hop]at hl;simp[eO]at hl
        .rw[aG8 hl]at hp;cases hp
     refine⟨hs,⟨fr,σ++hs,p,mT fr o.op⟩::tr,hho hs e1,?_⟩;simp only[fY,hw,yAM,hal,yAx,yAN];rw[key.1];simp only;rw[key.2]at e2;rw[e2]
   .simp only[yBW]at hw;rw[hw]at h;simp only[yAx,yAN]at h;obtain⟨hs,tr,e1,e2⟩:=U9 hU (n:=n) ms hsh hno hsu l (i+1) _ _ x hd' h;refine⟨hs,⟨fr,σ++hs,.aK [],none⟩::tr,hho hs e1,?_⟩;simp only[fY,hw,yAx,yAN,hal];rw[e2]
theorem aOo(hU:aF E){n:Nat}{ops:Cb}{x:Bw×Bv}(hs:(aCC ops&&HM ops&&QT ops)=true)(h:dM P (eU E) fl ops ops.toList fr σ=some x):mA P (bV P E n) fl ops fr σ=some x:=by
 simp only[yAr,aCC]at hs;obtain⟨⟨h1,h2⟩,h3⟩:=hs;rw[nP]at h1;simp only[yAr]at h1;obtain⟨hreg,hfeet⟩:=h1;have hr:=JY hreg;obtain⟨hs,tr,e1,e2⟩:=U9 (n:=n) hU (cA ops.toList []) (λi o ho=>hr.shape i o ho) h2 h3 ops.toList 0 fr σ x wz h;unfold mA;simp only[hreg,yAM,e1,e2];have hfo:CH ops.toList (cA ops.toList []) tr=true:=by
  simp only[CH,yAn,yAZ];simp only[yAn,yAZ]at hfeet;intro k hk;have h1:=hfeet k Ak;cases hs:eN eO ops.toList k with
  |false=>simp
  |true=>
   rw[hs]at h1;simp only[yBw,yBX,yAn,yAZ]at h1 ⊢;intro i hi;have h2:=h1 i Ae;rw[h2];simp
 rw[yAJ hfo]
theorem WL.lA{rd:Option Nat}{ms:List Nat}{Q:PO->Prop}{ops:Cb}{id:Nat}{y:Code}(hU:aF E)(_hd:LO ops=true)(hs:(aCC ops&&HM ops&&QT ops)=true)(h:SQ P (eU E) fl ops ops.toList fr σ (λfr' σ'=>Wp P E rd y fl fr' ms σ' Q)) :
  Wp P E rd (.seq (.region id ops true) y) fl fr ms σ Q:=by
 obtain⟨fr',σ',h1,h2⟩:=h.ex;exact .seq ⟨_,.draw (N:=0) (λn _=>aOo hU hs h1),.normal h2⟩
end
end
section
open Go
abbrev bW:=Nat->Option Nat
def aAD:Op->Option Tmp
 |.fieldAddr _ (.tmp u) _=>some u
 |.nilCheck (.tmp u)=>some u
 |.move (.tmp u)=>some u
 |_=>none
def bW.next(ρ:bW)(o:Oper):bW:=match o.dst with
 |none=>ρ
 |some d=>λt=>if d=t then(match aAD o.op with
  |some u=>ρ u
  |none=>none)else ρ t
def bW.jW(ρ:bW):Op->Option Nat
 |.load _ (.tmp t)=>ρ t
 |.store _ (.tmp t) _=>ρ t
 |_=>none
def oS:bW->List Oper->List (Option Nat)
 |_,[]=>[]
 |ρ,o::l=>ρ.jW o.op::oS (ρ.next o) l
def bW.ok(ρ:bW)(fr:List PD):Prop:=∀t id id',ρ t=some id->jH (fr.getD t (.aK []))=some id'->id'=id
def bW.of:List (Nat×Nat)->bW
 | []=>λ_=>none
 |x::l=>λt=>if x.1=t then some x.2 else bW.of l t
def bW.at(fr:List PD):List (Nat×Nat)->Prop
 | []=>True
 |x::l=>(∃off,lk fr x.1=some (.ptr x.2 off))/\bW.at fr l
theorem bW.aIz{fr:Bw}:∀(l:List (Nat×Nat)),bW.at fr l->(bW.of l).ok fr
 | [],_=>λ_ _ _ h=>xz
 |x::l,⟨⟨off,h1⟩,h2⟩=>λt id id' h h'=>by
  unfold bW.of at h
  by_cases e:x.1=t
  .rw[yAJ e]at h;simp only[yAb]at h;rw[Z9,e]at h1;rw[yAA,h1]at h';simp only[yBY,jH,yAb]at h';rw[<-h',h]
  .rw[yAI e]at h;exact bW.aIz l h2 t id id' h h'
section
variable{P:Program}{call:cO}{fl:Nat}{ops:Cb}
theorem bW.aIA{ρ:bW}{fr:Bw}(h:ρ.ok fr){op:Op}{a b:Nat}(h1:mT fr op=some a)(h2:ρ.jW op=some b):a=b:=by
 unfold bW.jW at h2;split at h2
 .rename_i t;simp only[mT,aT]at h1;exact h _ _ _ h2 h1
 .rename_i t;simp only[mT,aT]at h1;exact h _ _ _ h2 h1
 .cases h2
theorem bW.aAE{ρ:bW}{fr:Bw}(h:ρ.ok fr){o:Oper}{p:PD}
  (hp:∀u,aAD o.op=some u->∀id,jH p=some id->jH (fr.getD u (.aK []))=some id):(ρ.next o).ok (aL fr o.dst p):=by
 intro t id id' h1 h2;unfold bW.next at h1;cases hd:o.dst with
 |none=>
  rw[hd]at h1 h2;exact h t id id' h1 h2
 |some d=>
  rw[hd]at h1 h2;simp only[aL]at h1 h2
  by_cases e:d=t
  .rw[yAJ e]at h1;have hpt:jH p=some id':=by
    subst e;rw[yAA]at h2
    by_cases hlt:d<fr.length
    .rw[yAj hlt]at h2;simpa using h2
    .rw[yBp (by rw[yAD];exact Nat.le_of_not_lt hlt)]at h2;cases h2
   split at h1
   .rename_i u ho;exact h u id id' h1 (hp u ho _ hpt)
   .cases h1
  .rw[yAI e]at h1;rw[yAA,yAd e]at h2;exact h t id id' h1 (by rw[yAA];exact h2)
theorem aIB{s:TypeId}{x p:PD}{f id:Nat}(h:LU P s x f=some p)(hp:jH p=some id):jH x=some id:=by
 unfold LU at h
 repeat' split at h
 all_goals first
  |(simp only[yAb]at h;subst h;exact hp)
  |(cases h;done)
theorem aDE:∀(l:List Oper) (ms:List Nat) (i k:Nat) (fr:List PD) (σ:List U) (tr:List TE) (fr':List PD) (σ':List U) (ρ:bW),
  fY P call fl ops ms i k l fr σ=some (tr,fr',σ')->ρ.ok fr->∀j a b,(tr[j]?).bind TE.jW=some a->(oS ρ l).getD j none=some b->a=b
 | [],_,_,_,_,_,_,_,_,_,_,_,_,_,_,_,h2=>by simp[oS]at h2
 |o::l,ms,i,k,fr,σ,tr,fr',σ',ρ,h,hρ,j,a,b,h1,h2=>by
  simp only[fY]at h;split at h
  .split at h
   .rename_i p σ1 hop;split at h
    .rename_i mX aG σ2 hrec;simp only[yAb,yAc]at h;obtain⟨rfl,rfl,rfl⟩:=h;cases j with
     |zero=>
      exact mz
     |succ j=>
      simp only[yBL]at h1;simp only[oS,yDr]at h2;refine aDE l ms _ _ _ _ _ _ _ _ hrec (bW.aAE hρ ?_) j a b h1 h2;exact aj
    .cases h
   .cases h
  .split at h
   .rename_i mX aG σ2 hrec;simp only[yAb,yAc]at h;obtain⟨rfl,rfl,rfl⟩:=h;cases j with
    |zero=>simp at h1
    |succ j=>
     simp only[yBL]at h1;simp only[oS,yDr]at h2;exact aDE l ms _ _ _ _ _ _ _ _ hrec (bW.aAE hρ λ_ _ _ hp=>by cases hp) j a b h1 h2
   .cases h
def aAF(ops:List Oper)(ρ:bW):List (Option Nat×Option Nat):=tJ ops [] λms=>
 (List.range ops.length).flatMap λk=>if eN eO ops k then(List.range ops.length).filterMap λi=>if eN dA ops i&&loose ms i k then some ((oS ρ ops).getD i none,(oS ρ ops).getD k none)else none else []
def WG:List (Option Nat×Option Nat)->Prop
 | []=>True
 |(some a,some b)::l=>a≠b/\WG l
 |_::_=>False
theorem aIC:∀ {l:List (Option Nat×Option Nat)},WG l->∀x y,(x,y)∈l->∃a b,x=some a/\y=some b/\a≠b
 | [],_,_,_,h=>xz
 |(some a,some b)::l,h,x,y,hm=>by
  rcases yAS.1 hm with e|hm
  .simp only[yAc]at e;exact⟨a,b,e.1,e.2,h.1⟩
  .exact aIC h.2 x y hm
 |(none,_)::_,h,_,_,_=>h.elim
 |(some _,none)::_,h,_,_,_=>h.elim
def tO(ops:Array Oper):Bool:=tJ ops.toList [] λms=>JX ops ms
end
section
variable{P:Program}{E:aE}{fl:Nat}{fr:Bw}{σ:Bv}
theorem aID(hU:aF E){n:Nat}{ops:Cb}{x:Bw×Bv}(ρ:List (Nat×Nat)){L:List (Option Nat×Option Nat)}(hs:(tO ops&&HM ops&&QT ops)=true)
  (hρ:bW.at fr ρ) (hL:aAF ops.toList (bW.of ρ)=L) (hp:WG L) (h:dM P (eU E) fl ops ops.toList fr σ=some x):mA P (bV P E n) fl ops fr σ=some x:=by
 simp only[yAr,tO]at hs;obtain⟨⟨h1,h2⟩,h3⟩:=hs;rw[nP]at h1;have hr:=JY h1;obtain⟨hs,tr,e1,e2⟩:=U9 (n:=n) hU (cA ops.toList []) (λi o ho=>hr.shape i o ho) h2 h3 ops.toList 0 fr σ x wz h;have hft:=aDE _ _ _ _ _ _ _ _ _ _ e2 (bW.aIz ρ hρ);unfold mA;simp only[h1,yAM,e1,e2];have hfo:CH ops.toList (cA ops.toList []) tr=true:=by
  simp only[CH,yAn,yAZ];intro k hk;cases hs:eN eO ops.toList k with
  |false=>simp
  |true=>
   simp only[yBw,yBX,yAn,yAZ];intro i hi;cases hli:eN dA ops.toList i with
   |false=>simp
   |true=>
    cases hlo:loose (cA ops.toList []) i k with
    |false=>simp
    |true=>
     simp only[yBw,yBX];have hm:((oS (bW.of ρ) ops.toList).getD i none,(oS (bW.of ρ) ops.toList).getD k none)∈L:=by
      rw[<-hL,aAF,nP];refine yCG.2 ⟨k,yAZ.2 hk,?_⟩;rw[yAJ hs];refine yDF.2 ⟨i,yAZ.2 hi,?_⟩;rw[hli,hlo];rfl
     obtain⟨a,b,ha,hb,hab⟩:=aIC hp _ _ hm;split
     .rename_i a' b' ea eb;have e3:=hft i a' a ea ha;have e4:=hft k b' b eb hb;rw[e3,e4];simpa using hab
     .rfl
 rw[yAJ hfo]
theorem Wp.aAG{rd:Option Nat}{ms:List Nat}{Q:PO->Prop}{ops:Cb}{id:Nat}{y:Code}(hU:aF E)(ρ:List (Nat×Nat))(L:List (Option Nat×Option Nat))(hs:(tO ops&&HM ops&&QT ops)=true)
  (hρ:bW.at fr ρ) (hL:aAF ops.toList (bW.of ρ)=L) (hp:WG L) (h:SQ P (eU E) fl ops ops.toList fr σ (λfr' σ'=>Wp P E rd y fl fr' ms σ' Q)) :
  Wp P E rd (.seq (.region id ops true) y) fl fr ms σ Q:=by
 obtain⟨fr',σ',h1,h2⟩:=h.ex;exact .seq ⟨_,.draw (N:=0) (λn _=>aID hU ρ hs hρ hL hp h1),.normal h2⟩
theorem Wp.aQw{rd:Option Nat}{ms:List Nat}{Q:PO->Prop}{ops:Cb}{id:Nat}(hU:aF E)(ρ:List (Nat×Nat))(L:List (Option Nat×Option Nat))(hs:(tO ops&&HM ops&&QT ops)=true)
  (hρ:bW.at fr ρ) (hL:aAF ops.toList (bW.of ρ)=L) (hp:WG L) (h:SQ P (eU E) fl ops ops.toList fr σ (λfr' σ'=>Q ⟨.normal,fr',ms,σ'⟩)) :
  Wp P E rd (.region id ops true) fl fr ms σ Q:=by
 obtain⟨fr',σ',h1,h2⟩:=h.ex;exact⟨_,.draw (N:=0) (λn _=>aID hU ρ hs hρ hL hp h1),h2⟩
end
end
section
open Go
def aDF(P:Program)(u:TypeId):Bool:=match P.underlying u with
 |some .string=>true
 |_=>false
section
variable{P:Program}{call:cO}{fl:Nat}{ops:Cb}{l:List Oper}{fr aG:Bw}{σ σ1:Bv}{K:List PD->List U->Prop}
variable{dst:Option Tmp}{x y:Operand}{t u ty:TypeId}{pos:String}{edges:Array Edge}{guard:Option (Nat×Bool)}{p r:PD}{bs:Bx}
theorem SQ.OJ(hub:(aDF P u&&vM P t)=true)(hw:Region.wanted ⟨dst,.call { callee:=.builtin .append,args:=#[x,y],argTypes:=#[t,u] },ty,pos,edges,guard⟩ (aY ops fr)=true)(hx:bG fr x=some p)(hy:bG fr y=some (.str bs))
  (hr:(if pE t fr.length=true then mD P fr.length fl σ t p (HW bs)else dV P fl σ t p (HW bs))=some (r,σ1)) (hf:aL fr dst r=aG) (k:SQ P call fl ops l aG σ1 K):SQ P call fl ops (⟨dst,.call { callee:=.builtin .append,args:=#[x,y],argTypes:=#[t,u] },ty,pos,edges,guard⟩::l) fr σ K:=by
 simp only[yAr]at hub;have hu:P.underlying u=some .string:=by
  have:=hub.1;unfold aDF at this;split at this
  .assumption
  .cases this
 have hne:t≠u:=by
  rintro rfl
  have:=hub.2;unfold vM at this;rw[hu]at this;cases this
 refine .step hw (EO rfl ?_ ?_) (hf▸k)
 .simp only[dD,iX,cJ hx,cJ hy,J6]
 .simp only[cK,iX,cJ hx,cJ hy,hne,yAN,hu,hub.2,yAM];unfold HW at hr
  by_cases hm:pE t fr.length=true
  .rw[yAJ hm]at hr;rw[hr]
  .rw[yAI hm]at hr;have:mD P fr.length fl σ t p (.slice (if bs.length=0 then 0 else 1) (bs.map λb=>.int .u8 b.toNat) .any)=none:=by unfold mD;rw[yAI hm]
   rw[this];exact hr
theorem SL.OJ(hub:(aDF P u&&vM P t)=true)(hw:Wt (Region.wanted ⟨dst,.call { callee:=.builtin .append,args:=#[x,y],argTypes:=#[t,u] },ty,pos,edges,guard⟩ (aY ops fr)=true))(hx:bG fr x=some p)(hy:bG fr y=some (.str bs))
  (hr:By ((if pE t fr.length=true then mD P fr.length fl σ t p (HW bs)else dV P fl σ t p (HW bs))=some (r,σ1))) (hf:Fr (aL fr dst r=aG)) (k:SQ P call fl ops l aG σ1 K):SQ P call fl ops (⟨dst,.call { callee:=.builtin .append,args:=#[x,y],argTypes:=#[t,u] },ty,pos,edges,guard⟩::l) fr σ K:=SQ.OJ hub hw.h hx hy hr.h hf.h k
end
end
mutual
def PD.flat:PD->Bool
 |.bool _|.int _ _|.str _|.dJ|.kF|.bL _=>true
 |.agg cs=>PD.E1 cs
 |.aK cs=>PD.E1 cs
 |_=>false
def PD.E1:List PD->Bool
 | []=>true
 |x::xs=>x.flat&&PD.E1 xs
end
theorem PD.aIP:∀xs:List PD,PD.E1 xs=xs.all PD.flat
 | []=>by simp[PD.E1]
 |x::xs=>by simp[PD.E1,PD.aIP xs]
theorem VR.flat{c c':Cx}{v:Value}{p:PD}(hv:VR c v p):p.flat=true->VR c' v p:=by
 have at_:∀ {ds:Bw} {i:Nat} {d:PD},PD.E1 ds=true->ds[i]?=some d->d.flat=true:=by
  intro ds i d h hd;rw[PD.aIP]at h;exact yAn.1 h d (yAE hd)
 induction hv with
 |bool b=>intro _;exact .bool b
 |int k n=>intro _;exact .int k n
 |str s=>intro _;exact .str s
 |agg cs ds hl h1 _ ih=>
  intro hp;simp only[PD.flat]at hp;exact rm
 |slice A n cap size xs tok bU hn hc hm hx hf h1 hcl _ ht ih=>intro hp;simp[PD.flat]at hp
 |ptr id off b hd hs hr=>intro hp;simp[PD.flat]at hp
 |fR id off n cap size b hd hs hr h1 h2=>intro hp;simp[PD.flat]at hp
 |fF id ver off n cap size b mH h1 h2=>intro hp;simp[PD.flat]at hp
 |gO id ver off b mH=>intro hp;simp[PD.flat]at hp
 |gG id b hd hn hr=>intro hp;simp[PD.flat]at hp
 |iface t v p _ ih=>intro hp;simp[PD.flat]at hp
 |cP ad bU ds off hl h1 hcl _ ih=>intro hp;simp[PD.flat]at hp
 |dJ=>intro _;exact .dJ
 |func f cs ds hl _ ih=>intro hp;simp[PD.flat]at hp
 |oR f cs ds hl _ ih=>intro hp;simp[PD.flat]at hp
 |kF=>intro _;exact .kF
 |bL v h=>intro _;exact .bL v h
 |yield id l hd hn hr=>intro hp;simp[PD.flat]at hp
 |aK cs ds hl _ ih=>
  intro hp;simp only[PD.flat]at hp;exact so
def E2(σ:List U):PD->Option PD
 |.ptr id off=>match σ[id]? with
   |some (.box p)=>some (.cP (p.cells.map PD.strip) off)
   |_=>none
 |.fR id off n size=>match CU σ (.fR id off n size)with
   |some xs=>some (.slice 1 (xs.map PD.strip) .any)
   |none=>none
 |p=>some p.strip
def mL(σ:List U):List PD->Option (List PD)
 | []=>some []
 |p::ps=>match E2 σ p,mL σ ps with
  |some q,some qs=>some (q::qs)
  |_,_=>none
def Cx.boxed(c:Cx)(a:Addr):Prop:=∃id p b,c.D id/\c.σ[id]?=some (.box p)/\c.ρ id=.pointer (some ⟨b,0,none⟩)/\a.block=b
def Cx.open(c:Cx):Cx:={ w:=c.w,ρ:=λ_=>undef,σ:=[],D:=λ_=>False,X:=λa=>c.av a\/c.boxed a }
theorem aAI{c:Cx}(a:Addr):c.open.av a↔(c.av a\/c.boxed a):=⟨λh=>h.1,λh=>⟨h,λ_ _ hd=>hd.elim⟩⟩
theorem Sr.open{c:Cx}(hs:Sr c):Sr c.open where
 box:=λ_ _ h=>h.elim
 own:=λ_ _ _ _ h=>h.elim
 row:=λ_ _ _ _ _ h=>h.elim
 map:=λ_ _ h=>h.elim
 mark:=λ_ h=>h.elim
 loop:=λ_ _ _ _ _ _ h=>h.elim
 inj:=λ_ _ _ h=>h.elim
 lt:=λ_ _ h=>h.elim
 aW:=λ_ h=>h.elim
 fresh:=λ_ h=>.inl (aHl hs h)
 gU:=⟨λg ds e=>(hs.gU.1 g ds e).free (λa v h1 h2=>⟨(aAI a).2 (.inl h1),h2⟩) (by simpa [PD.dK]using aHm e),λg hh=>⟨(hs.gU.2 g hh).1,λ_ h=>h.elim⟩⟩
theorem aQO{c:Cx}(hs:Sr c){v:Value}{p q:PD}(hv:VR c v p)(h:E2 c.σ p=some q)(hf:q.dK=true):VR c.open v q:=by
 have up:∀a v,c.av a->c.w.cell? a=some v->c.open.av a/\c.open.w.cell? a=some v:=λa v h1 h2=>⟨(aAI a).2 (.inl h1),h2⟩
 unfold E2 at h;split at h
 .rename_i id off;split at h
  .rename_i p hb;simp only[yAb]at h;subst h;cases hv with
   |ptr id off b hd hq hr=>
    obtain⟨b',cs,T,e1,e2,e3,e4,_⟩:=hs.box id p hd hb;have hbb:b=b':=by
     rw[hr]at e1;simpa using e1
    subst hbb;have hadd:∀j,(⟨b,0,none⟩:Addr).add j=⟨b,j,none⟩:=λj=>xq
    have e5:aJ c.open cs.toList (p.cells.map PD.strip):=e3.strip.free up (by simpa [PD.dK]using hf);have:=VR.cP (c:=c.open) ⟨b,0,none⟩ cs.toList (p.cells.map PD.strip) off e5.1 e4 (λj v hj=>by
     rw[hadd];refine⟨?_,(aAI _).2 (.inr ⟨id,p,b,hd,hb,hr,rfl⟩)⟩;show c.w.cell? ⟨b,j,none⟩=some v
     simp only[World.cell?,e2];simpa using hj) e5.2
    rw[hadd]at this;exact this
  .cases h
 .rename_i id off n size;split at h
  .rename_i xs hxs;simp only[yAb]at h;subst h;simp only[CU]at hxs;split at hxs
   .split at hxs
    .rename_i p hb;split at hxs
     .rename_i hle;simp only[yAb]at hxs;subst hxs;obtain⟨b,cap,rfl,hd,_,hr,h1,h2⟩:=hv.KF;obtain⟨b',cs,T,e1,e2,e3,e4,_⟩:=hs.box id p hd hb;have hbb:b=b':=by
       rw[hr]at e1;simpa using e1
      subst hbb;have hadd:∀j,(⟨b,off,none⟩:Addr).add j=⟨b,off+j,none⟩:=λj=>xq
      have hpl:∀d∈(p.cells.drop off).take n,d.plain=true:=by
       intro d hd';obtain⟨i,hi⟩:=yCF (yBN (yAy hd'));have hlt:i<cs.toList.length:=by rw[e3.1];exact(yA.1 hi).1
       have:=(e3.2 i cs.toList[i] d Bi hi).plain;rw[this];exact e4 _ (yAm hlt)
      have hcl:∀d:PD,d.plain=true->d.strip.cells=[d.strip]:=by
       intro d hd';cases d with
       |slice m xs tok=>cases xs<;>rfl
       |agg _=>simp[PD.plain]at hd'
       |typed _ _=>simp[PD.plain]at hd'
       |aK _=>simp[PD.plain]at hd'
       |_=>rfl
      have hflat:∀l:List PD,(∀d∈l,d.plain=true)->(l.map PD.strip).flatMap PD.cells=l.map PD.strip:=by
       intro l
       induction l with
       |nil=>intro _;rfl
       |cons d l ih=>
        intro hl;rw[yB,yBg,hcl d (hl d wz),ih λx hx=>hl x (by simp[hx])];rfl
      have hfr:PD.fG (((p.cells.drop off).take n).map PD.strip)=true:=by simpa [PD.dK]using hf
      have e5:aJ c.open ((cs.toList.drop off).take n) (((p.cells.drop off).take n).map PD.strip):=(e3.take_drop off n).strip.free up hfr;have hlen:(((p.cells.drop off).take n).map PD.strip).length=n:=by
       rw[yAe,yAt,yBe];omega
      refine .slice (some ⟨b,off,none⟩) n cap 1 _ .any ((cs.toList.drop off).take n) hlen.symm h1 h2 ?_ (by have:=e5.1;omega) (λv hv=>e4 v (yBN (yAy hv))) ?_ ?_ trivial
      .intro x hx;obtain⟨d,hd',rfl⟩:=yAw.1 hx;rw[hcl d (hpl d hd')];rfl
      .intro j v hj;refine⟨_,rfl,?_,?_⟩
       .rw[hadd];show c.w.cell? ⟨b,off+j,none⟩=some v
        exact jy
       .rw[hadd];exact(aAI _).2 (.inr ⟨id,p,b,hd,hb,hr,rfl⟩)
      .intro j v d q1 q2;rw[hflat _ hpl]at q2;exact e5.2 j v d q1 q2
     .cases hxs
    .cases hxs
   .cases hxs
  .cases h
 .simp only[yAb]at h;subst h;exact hv.strip.free up hf
theorem aIQ{σ:Bv}:∀ {ps qs:Bw},mL σ ps=some qs->qs.length=ps.length
 | [],qs,h=>by simp[mL]at h;subst h;rfl
 |p::ps,qs,h=>by
  unfold mL at h;split at h
  .rename_i q qs' h1 h2;simp only[yAb]at h;subst h;simp[aIQ h2]
  .cases h
theorem aIR{σ:Bv}:∀ {ps qs:Bw},mL σ ps=some qs->∀(i:Nat) (q:PD),qs[i]?=some q->∃p,ps[i]?=some p/\E2 σ p=some q
 | [],qs,h,i,q,hq=>by simp[mL]at h;subst h;simp at hq
 |p::ps,qs,h,i,q,hq=>by
  unfold mL at h;split at h
  .rename_i q' qs' h1 h2;simp only[yAb]at h;subst h;cases i with
   |zero=>
    simp only[yBv,yAb]at hq;subst hq;exact⟨p,rfl,h1⟩
   |succ i=>exact aIR h2 i q (by simpa using hq)
  .cases h
theorem aQP{c:Cx}(hs:Sr c){vs:Bz}{ps qs:Bw}(hv:aJ c vs ps)(h:mL c.σ ps=some qs)(hf:PD.fG qs=true):aJ c.open vs qs:=by
 refine⟨hv.1.trans (aIQ h).symm,λi v q h1 h2=>?_⟩;obtain⟨p,e1,e2⟩:=aIR h i q h2;rw[PD.HR]at hf;exact aQO hs (hv.2 i v p h1 e1) e2 (yAn.1 hf q (yAE h2))
def dO(g:List PD->Option PD):Nat->List PD->List U->Option (PD×List U):=λ_ args σ=>match mL σ args with
 |some asg=>match g asg with|some p=>some (p,σ)|none=>none
 |none=>none
theorem aH.RV{P:Program}{E:aE}(hE:aH P E)(hP:P.follows .mixedOrders=true){f:FuncId}{g:List PD->Option PD}
  (h:∀args p,g args=some p->aI P E f args p/\PD.fG args=true/\p.flat=true):aH P (E.add f (dO g)):=by
 refine⟨fun {F fl f' g' args c vs p σ'} hF hg hgo hs hX hv=>?_,hE.aZ⟩;rw[aE.tI]at hg;split at hg
 .rename_i e;subst e;simp only[yAb]at hg;subst hg;unfold dO at hgo;split at hgo
  .rename_i asg has;split at hgo
   .rename_i q hga;simp only[yAb,yAc]at hgo;obtain⟨rfl,rfl⟩:=hgo;obtain⟨⟨p1,σ1,⟨N,hN⟩,e1⟩,e2,e3⟩:=h asg q hga;have gV:aJ c.open vs asg:=aQP hs hv has e2;have:=(VN hE hP hF N).fn (c:=c.open) (hN N (yAk _)) hs.open (λ_ _ h=>h.elim) gV;refine⟨this.1,λm=>yBS (this.2 m) λe w' he=>?_⟩;cases e with
    |returned v=>
     obtain⟨c1,rfl,rfl,hs1,nx,hvv,_⟩:=he;have hgr:c.w.grownBy c1.w none:=⟨nx.os,nx.tape,nx.output,nx.size,λk hk _=>nx.frame k hk (λ_ h=>h.elim)⟩;refine⟨c.at c1.w,rfl,rfl,hs.grow hgr,Nx.grow hs hgr,?_,λ_ h=>.inl h⟩;have hp:=hvv.strip;rw[e1]at hp;exact hp.flat e3
    |panicked ch=>exact he.elim
    |outgrown=>exact he.elim
   .cases hgo
  .cases hgo
 .exact fj
def iZ(P:Program)(E:aE)(f:FuncId)(Q:List PD->List U->PD->List U->Prop):Nat->List PD->List U->Option (PD×List U):=by
 classical
 exact λfl args σ=>if h:∃r:PD×List U,lM P E fl (.inl f) args σ r.1 r.2/\Q args σ r.1 r.2 then some h.choose else none
theorem WN{P:Program}{E:aE}{f:FuncId}{Q:List PD->List U->PD->List U->Prop}{fl:Nat}{args:Bw}{σ σ':Bv}{p:PD}(h:iZ P E f Q fl args σ=some (p,σ')):lM P E fl (.inl f) args σ p σ'/\Q args σ p σ':=by
 unfold iZ at h;exact lz
theorem aAJ{P:Program}{E:aE}{f:FuncId}{Q:List PD->List U->PD->List U->Prop}{fl:Nat}{args:Bw}{σ:Bv}(h:cH P E fl (.inl f) args σ (Q args σ)):∃p σ',iZ P E f Q fl args σ=some (p,σ')/\Q args σ p σ':=by
 obtain⟨p,σ',h1,h2⟩:=h.ex;have hx:∃r:PD×List U,lM P E fl (.inl f) args σ r.1 r.2/\Q args σ r.1 r.2:=⟨(p,σ'),h1,h2⟩;refine⟨hx.choose.1,hx.choose.2,?_,hx.choose_spec.2⟩;unfold iZ;rw[dif_pos hx]
theorem aH.WO{P:Program}{E:aE}(hE:aH P E)(hP:P.follows .mixedOrders=true){f:FuncId}{Q:List PD->List U->PD->List U->Prop}:aH P (E.add f (iZ P E f Q)):=
 hE.add hP λ_ _ _ _ _ h=>(WN h).1
theorem aIS:∀ {ps qs:Bw},mL [] ps=some qs->∀σ,mL σ ps=some qs
 | [],_,h,_=>h
 |p::ps,qs,h,σ=>by
  unfold mL at h ⊢;split at h
  .rename_i q qs' h1 h2;simp only[yAb]at h;subst h;have e:E2 σ p=some q:=by
    cases p with
    |ptr id off=>simp[E2]at h1
    |fR id off n size=>simp[E2,CU]at h1
    |_=>exact h1
   rw[e,aIS h2 σ]
  .cases h
theorem aF.dO{E:aE}(hU:aF E){f:FuncId}{g:List PD->Option PD}:aF (E.add f (dO g)):=by
 intro f' g' args p hf hg fl σ;rw[aE.tI]at hf;split at hf
 .simp only[yAb]at hf;subst hf;unfold Kz.dO at hg ⊢;split at hg
  .rename_i asg has;rw[aIS has σ];simp only;split at hg
   .rename_i q hq;simp only[yAb,yAc]at hg ⊢;exact⟨hg.1,trivial⟩
   .cases hg
  .cases hg
 .exact hU f' g' args p hf hg fl σ
theorem aF.iZ{P:Program}{E:aE}(hU:aF E){f:FuncId}{Q:List PD->List U->PD->List U->Prop}(hQ:∀args p,¬Q args [] p []):aF (E.add f (iZ P E f Q)):=
 hU.other λargs p h=>hQ args p (WN h).2
structure Hd (R:Prop):Prop where
 out:R
theorem aD{X R G:Prop}(gx:X)(r:R)(h:X->Hd R->G:=by
  (intro gx hh
   (repeat(first
    |(refine Fr.i ?_;simp only[aL,yAT,yAU];try rfl)
    |(refine By.i ?_;(focus(simp(disch:=first|omega|(simp;done)|(simp;omega)) [wrap_i64,wrap_u64,gx,entry,Q6,aX,cV,Q7];first|done|rfl|exact⟨rfl,rfl⟩)))
    |(refine By.i ?_;simp(disch:=first|omega|(simp;done)|(simp;omega)) [wrap_i64,wrap_u64,gx,entry,Q6,aX,cV,Q7];refine⟨xh,rfl⟩)
    |(refine Wt.i ?_;first|rfl|(focus(simp[gx,entry,Q6,aX,cV,Q7];done)))
    |(refine Ns.i ?_;(try simp only[yAl,yAQ,yAR,yAi,yAa,yAK,yAL,yAp,Nat.reduceAdd]);rfl)|rfl
    |(apply SL.pass;(focus(refine Wt.i ?_;rfl)))|(apply SL.OJ;(focus decide +kernel))|(apply tu;(focus rfl))|apply SL.move|apply SL.assign|apply SL.load|apply SL.fK|apply tu|apply tu
    |apply SL.binOp|apply SL.append|(apply tu;(focus decide +kernel))|apply tu|apply SL.builtin|apply SL.fieldAddr|apply SL.indexAddr|apply SL.field|apply SL.extract|(apply tu;rotate_left;(focus rfl);rotate_right)|apply SL.fL|apply SL.pick|apply SL.store|apply SL.unOp|apply SL.convert|apply SL.index
    |apply SL.slice|apply SL.build|apply SL.nilCheck|apply SL.buildSlice|apply SL.box|apply SL.alloc|apply SL.makeFunc|apply tu|apply SQ.nil|(apply WL.jU;(focus decide +kernel))
    |(apply WL.dW xd;(focus decide +kernel);(focus decide +kernel))|(apply WL.jG;(focus decide +kernel);(focus decide +kernel))|(apply WL.kE;(focus decide +kernel))
    |(apply WL.kC xd;(focus decide +kernel);(focus decide +kernel))|(apply tu;(focus decide +kernel);(focus decide +kernel))|(apply WL.kB xd;(focus decide +kernel);(focus decide +kernel))
    |(apply WL.kA xd;(focus decide +kernel);(focus decide +kernel))|(apply WL.lA xd;(focus decide +kernel);(focus decide +kernel))
    |(apply tu xd;(focus decide +kernel);(focus decide +kernel))|apply tu|(apply WL.ct;(focus rfl))|(apply WL.cf;(focus rfl))|refine aS.normal ?_|refine aS.ret ?_|refine aS.exit ?_
    |refine aO.normal ?_|refine aO.ret ?_|refine aO.here ?_|refine aO.there xl ?_|refine Wp.block ?_|refine Wp.skip ?_|refine Wp.ret ?_|refine Wp.exit ?_|refine aM.ret ?_|refine aM.exit ?_
    |refine tu ?_|refine tu ?_|refine tu ?_|refine Wp.seq (Wp.seq ?_)|refine Wp.seq (Wp.block ?_)|(refine Wp.seq ?_;apply WL.ct;(focus rfl))|(refine Wp.seq ?_;apply WL.cf;(focus rfl))))
   exact hh.out)):G:=h gx ⟨r⟩
theorem bF{X R G:Prop}(gx:X)(r:R)(h:X->Hd R->G:=by
  (intro gx hh
   (repeat(first
    |(refine Fr.i ?_;simp only[aL,yAT,yAU];try rfl)
    |(refine By.i ?_;(focus(simp(disch:=first|omega|(simp;done)|(simp;omega)) [wrap_i64,wrap_u64,gx];first|done|rfl|exact⟨rfl,rfl⟩)))
    |(refine By.i ?_;simp(disch:=first|omega|(simp;done)|(simp;omega)) [wrap_i64,wrap_u64,gx];refine⟨xh,rfl⟩)
    |(refine Wt.i ?_;first|rfl|(focus(simp[gx];done)))
    |(refine Ns.i ?_;(try simp only[yAl,yAQ,yAR,yAi,yAa,yAK,yAL,yAp,Nat.reduceAdd]);rfl)|rfl
    |(apply SL.pass;(focus(refine Wt.i ?_;rfl)))|(apply tu;(focus rfl))|apply SL.move|apply SL.assign|apply SL.load|apply SL.fK|apply tu|apply tu|apply SL.binOp|apply SL.append|apply tu
    |apply SL.builtin|apply SL.fieldAddr|apply SL.indexAddr|apply SL.field|apply SL.extract|apply SL.fL|apply SL.pick|apply SL.store|apply SL.unOp|apply SL.convert|apply SL.index|apply SL.slice|apply SL.build
    |apply SL.nilCheck|apply SL.buildSlice|apply SL.box|apply SL.alloc|apply SL.makeFunc))
   exact hh.out)):G:=h gx ⟨r⟩
theorem jJ{X R G:Prop}(gx:X)(r:R)(h:X->Hd R->G:=by
  (intro gx hh
   (repeat(first
    |(refine Fr.i ?_;simp only[aL,yAT,yAU];try rfl)
    |(refine By.i ?_;(focus(simp(disch:=first|omega|(simp;done)|(simp;omega)) [wrap_i64,wrap_u64,gx];first|done|rfl|exact⟨rfl,rfl⟩)))
    |(refine By.i ?_;simp(disch:=first|omega|(simp;done)|(simp;omega)) [wrap_i64,wrap_u64,gx];refine⟨xh,rfl⟩)
    |(refine Wt.i ?_;first|rfl|(focus(simp[gx];done)))
    |(refine Ns.i ?_;(try simp only[yAl,yAQ,yAR,yAi,yAa,yAK,yAL,yAp,Nat.reduceAdd]);rfl)|rfl
    |(apply SL.pass;(focus(refine Wt.i ?_;rfl)))|(apply tu;(focus rfl))|apply SL.move|apply SL.assign|apply SL.load|apply SL.fK|apply tu|apply tu|apply SL.binOp|apply SL.append
    |apply tu|apply SL.builtin|apply SL.fieldAddr|apply SL.indexAddr|apply SL.field|apply SL.extract|apply SL.fL|apply SL.pick|apply SL.store|apply SL.unOp|apply SL.convert|apply SL.index|apply SL.slice
    |apply SL.build|apply SL.nilCheck|apply SL.buildSlice|apply SL.box|apply SL.alloc|apply SL.makeFunc))
   exact hh.out)):G:=h gx ⟨r⟩
theorem aDI{X R G:Prop}(gx:X)(r:R)(h:X->Hd R->G:=by
  (intro gx hh
   (repeat(first
    |(refine Fr.i ?_;simp only[aL,yAT,yAU];try rfl)|(refine By.i ?_;(focus(simp(disch:=first|omega|(simp;done)|(simp;omega)) [wrap_i64,wrap_u64,gx];first|done|rfl|exact⟨rfl,rfl⟩)))
    |(refine By.i ?_;simp(disch:=first|omega|(simp;done)|(simp;omega)) [wrap_i64,wrap_u64,gx];refine⟨xh,rfl⟩)
    |(refine Wt.i ?_;first|rfl|(focus(simp;done)))
    |(refine Ns.i ?_;(try simp only[yAl,yAQ,yAR,yAi,yAa,yAK,yAL,yAp,Nat.reduceAdd]);rfl)|rfl
    |(apply SL.pass;(focus(refine Wt.i ?_;rfl)))|(apply tu;(focus rfl))|apply SL.move|apply SL.assign|apply SL.load|apply SL.fK|apply tu|apply tu|apply SL.binOp|apply SL.append|apply tu
    |apply SL.builtin|apply SL.fieldAddr|apply SL.indexAddr|apply SL.field|apply SL.extract|apply SL.fL|apply SL.pick|apply SL.store|apply SL.unOp|apply SL.convert|apply SL.index|apply SL.slice|apply SL.build
    |apply SL.nilCheck|apply SL.buildSlice|apply SL.box|apply SL.alloc|apply SL.makeFunc))
   exact hh.out)):G:=h gx ⟨r⟩
theorem aIK{X R G:Prop}(gx:X)(r:R)(h:X->Hd R->G:=by
  (intro gx hh
   (repeat(first
    |(refine Fr.i ?_;simp only[aL,yAT,yAU];try rfl)
    |(refine By.i ?_;(focus(simp(disch:=first|omega|(simp;done)|(simp;omega)) [wrap_i64,wrap_u64,gx,entry,aX];first|done|rfl|exact⟨rfl,rfl⟩)))
    |(refine By.i ?_;simp(disch:=first|omega|(simp;done)|(simp;omega)) [wrap_i64,wrap_u64,gx,entry,aX];refine⟨xh,rfl⟩)
    |(refine Wt.i ?_;first|rfl|(focus(simp[gx,entry,aX];done)))
    |(refine Ns.i ?_;(try simp only[yAl,yAQ,yAR,yAi,yAa,yAK,yAL,yAp,Nat.reduceAdd]);rfl)|rfl
    |(apply SL.pass;(focus(refine Wt.i ?_;rfl)))|(apply tu;(focus rfl))|apply SL.move|apply SL.assign|apply SL.load|apply SL.fK|apply tu|apply tu|apply SL.binOp|apply SL.append
    |apply tu|apply SL.builtin|apply SL.fieldAddr|apply SL.indexAddr|apply SL.field|apply SL.extract|apply SL.fL|apply SL.pick|apply SL.store|apply SL.unOp|apply SL.convert|apply SL.index|apply SL.slice
    |apply SL.build|apply SL.nilCheck|apply SL.buildSlice|apply SL.box|apply SL.alloc|apply SL.makeFunc))
   exact hh.out)):G:=h gx ⟨r⟩
theorem aIO{X R G:Prop}(gx:X)(r:R)(h:X->Hd R->G:=by
  (intro gx hh
   (repeat(first
    |(refine Fr.i ?_;simp only[aL,yAT,yAU];try rfl)|(refine By.i ?_;(focus(simp(disch:=first|omega|(simp;done)|(simp;omega)) [wrap_i64,wrap_u64,gx];first|done|rfl|exact⟨rfl,rfl⟩)))
    |(refine By.i ?_;simp(disch:=first|omega|(simp;done)|(simp;omega)) [wrap_i64,wrap_u64,gx];refine⟨xh,rfl⟩)
    |(refine Wt.i ?_;first|rfl|(focus(simp;done)))
    |(refine Ns.i ?_;(try simp only[yAl,yAQ,yAR,yAi,yAa,yAK,yAL,yAp,Nat.reduceAdd]);rfl)|rfl
    |(apply SL.pass;(focus(refine Wt.i ?_;rfl)))|apply SL.WI underlying204|apply SL.WJ underlying204|(apply SL.WK underlying20;(focus rfl))|(apply SL.WM underlying20;(focus rfl))
    |(apply tu;(focus rfl))|apply SL.move|apply SL.assign|apply SL.load|apply SL.fK|apply tu|apply tu|apply SL.binOp|apply SL.append|apply tu|apply SL.builtin|apply SL.fieldAddr
    |apply SL.indexAddr|apply SL.field|apply SL.extract|apply SL.fL|apply SL.pick|apply SL.store|apply SL.unOp|apply SL.convert|apply SL.index|apply SL.slice|apply SL.build|apply SL.nilCheck|apply SL.buildSlice
    |apply SL.box|apply SL.alloc|apply SL.makeFunc))
   exact hh.out)):G:=h gx ⟨r⟩
theorem aH.addCases{P:Program}{E:aE}(hE:aH P E)(hP:P.follows .mixedOrders=true){f:FuncId}{g:List PD->Option PD}
  (h:∀args p,g args=some p->PD.fG (args.map PD.strip)=true/\p.dK=true/\∀(c:Cx) (vs:List Value),aJ c vs (args.map PD.strip)->∃args1,aJ c vs args1/\aI P E f args1 p) :
  aH P (E.add f (λ_ args σ=>match g args with|some p=>some (p,σ)|none=>none)):=by
 refine⟨fun {F fl f' g' args c vs p σ'} hF hg hgo hs hX hv=>?_,hE.aZ⟩;rw[aE.tI]at hg;split at hg
 .rename_i e;subst e;simp only[yAb]at hg;subst hg;cases hga:g args with
  |none=>simp only[hga]at hgo;cases hgo
  |some q=>
   simp only[hga,yAb,yAc]at hgo;obtain⟨rfl,rfl⟩:=hgo;obtain⟨e2,e3,hx⟩:=h args q hga;have gV:aJ c.bare vs (args.map PD.strip):=hv.strip.free (λa v h1 h2=>⟨(aCS a).2 h1,h2⟩) e2;obtain⟨args1,kQ,p1,σ1,⟨N,hN⟩,e1⟩:=hx c.bare vs gV;have:=(VN hE hP hF N).fn (c:=c.bare) (hN N (yAk _)) hs.bare (λ_ _ h=>h.elim) kQ;exact au
 .exact fj
theorem aQ5{c:Cx}{vs:Bz}{n:Nat}(h:aJ c vs [.slice n [] .any]):aJ c vs [.slice n [] .HX]\/aJ c vs [.slice n [] .HY]:=by
 obtain⟨h1,h2⟩:=h
 match vs,h1 with
 | [v],_=>
   have hv:=h2 0 v _ rfl rfl;obtain⟨A,cap,fl,rfl,a1,a2,a3,a4,a5,a6,a7,a8⟩:=hv.nW;have one:∀d,VR c (.slice A ([]:List PD).length cap) d->aJ c [.slice A ([]:List PD).length cap] [d]:=λd hd=>⟨rfl,λi v d' e1 e2=>by
    cases i with
    |zero=>simp at e1 e2;subst e1 e2;exact hd
    |succ i=>simp at e1⟩
   cases A with
   |none=>exact .inl (one _ (.slice none _ cap n [] .HX fl rfl a1 a2 a3 a4 a5 a6 a7 ⟨_,_,rfl⟩))
   |some a=>exact .inr (one _ (.slice (some a) _ cap n [] .HY fl rfl a1 a2 a3 a4 a5 a6 a7 ⟨_,_,_,rfl⟩))
section
open Go
section
variable{P:Program}{call:cO}{fl:Nat}{ops:Cb}
theorem aFF:∀(l:List Oper) (i k:Nat) (fr:List PD) (σ:List U) (tr:List TE) (fr':List PD) (σ':List U) (ρ:bW),
  oO P call fl ops i k l fr σ=some (tr,fr',σ')->ρ.ok fr->∀j a b,(tr[j]?).bind TE.jW=some a->(oS ρ l).getD j none=some b->a=b
 | [],_,_,_,_,_,_,_,_,_,_,_,_,_,_,h2=>by simp[oS]at h2
 |o::l,i,k,fr,σ,tr,fr',σ',ρ,h,hρ,j,a,b,h1,h2=>by
  simp only[oO]at h;split at h
  .split at h
   .rename_i p σ1 hop;split at h
    .rename_i mX aG σ2 hrec;simp only[yAb,yAc]at h;obtain⟨rfl,rfl,rfl⟩:=h;cases j with
     |zero=>
      exact mz
     |succ j=>
      simp only[yBL]at h1;simp only[oS,yDr]at h2;refine aFF l _ _ _ _ _ _ _ _ hrec (bW.aAE hρ ?_) j a b h1 h2;exact aj
    .cases h
   .cases h
  .split at h
   .rename_i mX aG σ2 hrec;simp only[yAb,yAc]at h;obtain⟨rfl,rfl,rfl⟩:=h;cases j with
    |zero=>simp at h1
    |succ j=>
     simp only[yBL]at h1;simp only[oS,yDr]at h2;exact aFF l _ _ _ _ _ _ _ _ hrec (bW.aAE hρ λ_ _ _ hp=>by cases hp) j a b h1 h2
   .cases h
end
open Classical in
def DI(E:aE)(B:List Nat):cO:=λfl tg args σ=>match cN E fl tg args σ with
 |some (p,σ')=>if σ.length<=σ'.length/\(∀id∈B,id<σ.length->σ'[id]?=σ[id]?)then some (p,σ')else none
 |none=>none
theorem aBE{E:aE}{B:List Nat}{fl f:Nat}{g:Bq}{args:Bw}{σ σ':Bv}{p:PD}(hE:E f=some g)(h:g fl args σ=some (p,σ'))(hl:σ.length<=σ'.length)(hk:∀id∈B,id<σ.length->σ'[id]?=σ[id]?) :
  DI E B fl (.inl f) args σ=some (p,σ'):=by
 have e:cN E fl (.inl f) args σ=some (p,σ'):=by simp only[cN,hE,h]
 unfold DI;rw[e];simp only;rw[yAJ ⟨hl,hk⟩]
theorem aWI{E:aE}{B:List Nat}{fl:Nat}{tg:FuncId ⊕ Nat}{args:Bw}{σ σ':Bv}{p:PD}(h:DI E B fl tg args σ=some (p,σ')):cN E fl tg args σ=some (p,σ')/\σ.length<=σ'.length/\∀id∈B,id<σ.length->σ'[id]?=σ[id]?:=by
 unfold DI at h;split at h
 .rename_i p1 σ1 e;split at h
  .rename_i hc;simp only[yAb,yAc]at h;obtain⟨rfl,rfl⟩:=h;exact⟨e,hc⟩
  .cases h
 .cases h
section
variable{P:Program}{E:aE}{fl:Nat}{ops:Cb}
theorem TE.aLB{t:TE}{tr:List TE}{CW:Bv}:TE.at (t::tr) CW 0=t.σ:=rfl
theorem TE.TJ{t:TE}{tr:List TE}{CW:Bv}{j:Nat}:TE.at (t::tr) CW (j+1)=TE.at tr CW j:=by simp[TE.at]
theorem TE.aLC{tr:List TE}{σ:Bv}{fr fr':Bw}{σ':Bv}{call:cO}{i k:Nat}{l:List Oper}(h:oO P call fl ops i k l fr σ=some (tr,fr',σ')):TE.at tr σ' 0=σ:=by
 cases l with
 |nil=>
  simp only[oO,yAb,yAc]at h;obtain⟨rfl,_,rfl⟩:=h;rfl
 |cons o l=>
  simp only[oO]at h;split at h
  .split at h
   .exact om
   .cases h
  .exact om
def TK(ops:List Oper)(ρ:bW):List (Option Nat):=tJ ops [] λms=>
 (List.range ops.length).flatMap λk=>if eN cI ops k then(List.range ops.length).filterMap λi=>if eN dA ops i&&loose ms i k then some ((oS ρ ops).getD i none)else none else []
def tX(B:List Nat):List (Option Nat)->Prop
 | []=>True
 |some a::l=>a∈B/\tX B l
 |none::_=>False
theorem aLD{B:List Nat}:∀ {l:List (Option Nat)},tX B l->∀x,x∈l->∃a,x=some a/\a∈B
 | [],_,_,h=>xz
 |some a::l,h,x,hm=>by
  rcases yAS.1 hm with rfl|hm
  .exact⟨a,rfl,h.1⟩
  .exact aLD h.2 x hm
 |none::_,h,_,_=>h.elim
def aFG(f:Oper->Bool)(ops:List Oper)(i:Nat):Bool:=((ops[i]?).map f).getD false
def aFH(f:Nat)(o:Oper):Bool:=o.guard.isNone&&(match o.op with
 |.call { callee:=.value (.func g),.. }=>decide (g=f)
 |_=>false)
end
def mN(P:Program)(E:aE)(f:FuncId)(Q:List PD->List U->PD->List U->Prop):Nat->List PD->List U->Option (PD×List U):=λfl args σ=>if fl=0 then iZ P E f Q 0 args σ else none
theorem aKz{P:Program}{E:aE}{f:FuncId}{Q:List PD->List U->PD->List U->Prop}:∀fl args σ,0<fl->mN P E f Q fl args σ=none:=λfl args σ h=>by
 unfold mN;rw[yAI xb]
theorem aE4{P:Program}{E:aE}{f:FuncId}{Q:List PD->List U->PD->List U->Prop}{args:Bw}{σ:Bv}(h:cH P E 0 (.inl f) args σ (Q args σ)):∃p σ',mN P E f Q 0 args σ=some (p,σ')/\Q args σ p σ':=by
 unfold mN;rw[yAJ rfl];exact aAJ h
theorem aH.aEk{P:Program}{E:aE}(hE:aH P E)(hP:P.follows .mixedOrders=true){f:FuncId}{Q:List PD->List U->PD->List U->Prop}:aH P (E.add f (mN P E f Q)):=
 hE.add hP λfl args σ p σ' h=>by
  unfold mN at h;split at h
  .rename_i e;subst e;exact(WN h).1
  .cases h
theorem aF.mN{P:Program}{E:aE}(hU:aF E){f:FuncId}{Q:List PD->List U->PD->List U->Prop}(hQ:∀args p,¬Q args [] p []):aF (E.add f (mN P E f Q)):=
 hU.other λargs p h=>by
  unfold Kz.mN at h;rw[yAJ rfl]at h;exact hQ args p (WN h).2
end
theorem aG1{F:Fence}{P:Program}(hF:Open F P)(m:Machine):m.fenced P F:=by
 intro g _;refine⟨λh=>?_,Or.inl (hF.fn _),λ_ _=>hF.fn _,λ_ h=>?_⟩
 .rw[hF.alive]at h;cases h
 .rw[hF.depth]at h;cases h
theorem aOh{F:Fence}{P:Program}(hF:Open F P){m m':Machine}{e:Ending}(h:Comes P m m' e):ComesIn (Machine.fenced P F) P m m' e:=by
 cases e with
 |returned v=>exact(StepsIn.of_steps h).mono λm _=>aG1 hF m
 |panicked chain=>exact(StepsIn.of_steps h).mono λm _=>aG1 hF m
 |outgrown=>exact h
theorem aOi{F:Fence}{P:Program}(hF:Open F P){n:Nat}{f:FuncId}{args:Ca}{w:World}{R:Ending->World->Prop}(h:Calls P f args w R):CallsIn F n P f args w R:=
 ⟨hF.fn f,λcs _=>let ⟨e,w',fr,r,s,x⟩:=h cs;⟨e,w',fr,r,aOh hF s,x⟩⟩
theorem aH.aCz{P:Program}{E:aE}(hE:aH P E){f:FuncId}{g:Bq}(hf:∃fn,P.funcs[f]?=some fn/\fn.body.isSome=true)
  (h:∀(fl:Nat) (args:List PD) (c:Cx) (vs:List Value) (p:PD) (σ':List U),g fl args c.σ=some (p,σ')->Sr c->Xw fl c->aJ c vs args->Calls P f vs.toArray c.w (JU fl c p σ')):aH P (E.add f g):=by
 refine⟨fun {F fl f' g' args c vs p σ'} hF hg hgo hs hX hv=>?_,hE.aZ⟩;rw[aE.tI]at hg;split at hg
 .rename_i e;subst e;simp only[yAb]at hg;subst hg;exact⟨hf,λm=>aOi hF (h fl args c vs p σ' hgo hs hX hv)⟩
 .exact fj
theorem aH.QS{P:Program}{E:aE}(hE:aH P E){f:FuncId}{g:List PD->Option PD}(hf:∃fn,P.funcs[f]?=some fn/\fn.body.isSome=true)
  (h:∀(args:List PD) (c:Cx) (vs:List Value) (p:PD),g args=some p->Sr c->aJ c vs args->Calls P f vs.toArray c.w λe w'=>∃v,e=.returned v/\c.w.grownBy w' none/\(Sr (c.at w')->VR (c.at w') v p)):aH P (E.add f (entry g)):=by
 refine hE.aCz hf λfl args c vs p σ' hg hs _ hv=>?_
 unfold entry at hg;cases hga:g args with
 |none=>rw[hga]at hg;cases hg
 |some q=>
  rw[hga]at hg;simp only[yAb,yAc]at hg;obtain⟨rfl,rfl⟩:=hg;refine yBF (h args c vs q hga hs hv) λe w' he=>?_
  obtain⟨v,rfl,hgr,hvv⟩:=he;have hs':=hs.grow hgr;exact⟨c.at w',rfl,rfl,hs',Nx.grow hs hgr,hvv hs',λ_ h=>.inl h⟩
theorem aCA(w:World):w.grownBy w none:=⟨rfl,rfl,rfl,yAk _,λ_ _ _=>rfl⟩
theorem aOj{c:Cx}{w':World}{a:Addr}(hs:Sr c)(h:c.w.heap.size<=a.block):(c.at w').av a:=by
 exact bq
theorem aCB{c:Cx}{vs:Bz}{p:PD}(h:aJ c vs [p]):∃v,vs=[v]/\VR c v p:=by
 match vs,h.1 with
 | [v],_=>exact⟨v,rfl,h.2 0 _ _ rfl rfl⟩
theorem U7{c:Cx}{vs:Bz}{p q:PD}(h:aJ c vs [p,q]):∃v u,vs=[v,u]/\VR c v p/\VR c u q:=by
 match vs,h.1 with
 | [v,u],_=>exact⟨v,u,rfl,h.2 0 _ _ rfl rfl,h.2 1 _ _ rfl rfl⟩
theorem VR.int_eq{c:Cx}{v:Value}{k:IntKind}{n:Int}(h:VR c v (.int k n)):v=.int k n:=zq
theorem VR.JV{c:Cx}{v:Value}{s:Bx}(h:VR c v (.str s)):v=.string ⟨s.toArray⟩:=zq
theorem aOk{α β:Type}{a:Em α}{r:Em β}{F:α->Option β}{args:Bw}{p:PD}(h:aX a r F args=some p):∃x z,args.map PD.strip=[a.aA x]/\F x=some z/\p=r.aA z:=by
 match args,h with
 | [q],h=>
   simp only[aX]at h;split at h
   .rename_i x hx;split at h
    .rename_i z hz;simp only[yAb]at h;exact⟨x,z,by simp[Em.JW hx],hz,h.symm⟩
    .cases h
   .cases h
theorem U8{α β γ:Type}{a:Em α}{b:Em β}{r:Em γ}{F:α->β->Option γ}{args:Bw}{p:PD}(h:cV a b r F args=some p):∃x y z,args.map PD.strip=[a.aA x,b.aA y]/\F x y=some z/\p=r.aA z:=by
 match args,h with
 | [q1,q2],h=>
   simp only[cV]at h;split at h
   .rename_i x y hx hy;split at h
    .rename_i z hz;simp only[yAb]at h;exact⟨x,y,z,by simp[Em.JW hx,Em.JW hy],hz,h.symm⟩
    .cases h
   .cases h
section
section
variable{c:Cx}{w':World}{id n cap g size:Nat}{e:TypeId}{cur:Ca}{fz WE:Nat×Nat}
theorem aQv(hg:c.w.heap[g]?=some (.cells cur e fz))(h1:∀k,k≠g->w'.heap[k]?=c.w.heap[k]?)(h2:w'.heap[g]?=some (.cells cur e WE))(a:Addr):w'.cell? a=c.w.cell? a:=by
 unfold World.cell?
 by_cases h:a.block=g
 .rw[h,hg,h2]
 .rw[h1 _ h]
theorem Nx.aAB{fl:Nat}(hd:c.D id)(hρ:c.ρ id=.slice (some ⟨g,0,none⟩) n cap)(hfl:fl<=id)(hg:c.w.heap[g]?=some (.cells cur e fz))
  (h0:w'.os=c.w.os/\w'.tape=c.w.tape/\w'.output=c.w.output/\w'.heap.size=c.w.heap.size) (h1:∀k,k≠g->w'.heap[k]?=c.w.heap[k]?) (h2:w'.heap[g]?=some (.cells cur e WE)):Nx fl c (c.at w') where
 X:=rfl
 os:=h0.1
 tape:=h0.2.1
 output:=h0.2.2.1
 size:=yCE h0.2.2.2.symm
 len:=yAk _
 cell:=λa v ha hv=>⟨ha,by show w'.cell? a=_;rw[aQv hg h1 h2];exact hv⟩
 aW:=λ_ h=>h
 new:=λ_ h=>.inl h
 tM:=λ_ p _ h=>⟨rfl,p,h⟩
 lP:=λ_ _ h=>⟨rfl,h⟩
 vR:=λ_ _ _ n _ h=>⟨n,h,yAk _,λ_=>rfl⟩
 vS:=λ_ _ _ v cs _ h=>⟨v,cs,h,yAk _,λ_=>rfl⟩
 back:=λ_ _ h h' _=>⟨h,h'⟩
 frame:=λk _ hx=>h1 k λe=>hx id hd hfl (by rw[hρ,e];rfl)
 ro:=λ_ _ _=>rfl
 hole:=λ_ _ _=>rfl
theorem Sr.aAB(hs:Sr c)(hd:c.D id)(hq:c.σ[id]?=some (.own e size n))(hρ:c.ρ id=.slice (some ⟨g,0,none⟩) n cap)(hg:c.w.heap[g]?=some (.cells cur e fz))
  (h0:w'.os=c.w.os/\w'.tape=c.w.tape/\w'.output=c.w.output/\w'.heap.size=c.w.heap.size) (h1:∀k,k≠g->w'.heap[k]?=c.w.heap[k]?) (h2:w'.heap[g]?=some (.cells cur e WE)) (h3:WE.2<=n*size):Sr (c.at w'):=by
 have hb:aV (c.ρ id)=some g:=by rw[hρ];rfl
 have nx:Nx 0 c (c.at w'):=Nx.aAB hd hρ (yAF _) hg h0 h1 h2;have far:∀i b,c.D i->i≠id->aV (c.ρ i)=some b->w'.heap[b]?=c.w.heap[b]?:=λi b hi hne hbi=>h1 b λe'=>hs.inj i id b hi hd hne hbi (by rw[e'];exact hb)
 have hne:∀i (o:U),c.σ[i]?=some o->(∀e s m,o≠.own e s m)->i≠id:=λi o ho hno e'=>by
  subst e';rw[hq]at ho;simp only[yAb]at ho;exact hno _ _ _ ho.symm
 refine⟨?_,?_,?_,?_,?_,?_,hs.inj,?_,hs.aW,?_,hs.gU.mono nx⟩
 .intro i p hi hp;obtain⟨b',cs',T',e1,e2,e3,e4⟩:=hs.box i p hi hp;exact⟨b',cs',T',e1,by show w'.heap[b']?=_;rw[far i b' hi (hne i _ hp (λ_ _ _ e=>xx)) Ah];exact e2,e3.mono nx,e4⟩
 .intro i e0 s m hi ho
  by_cases hii:i=id
  .subst hii;have ho':c.σ[i]?=some (.own e0 s m):=ho;rw[hq]at ho';simp only[yAb,U.own.injEq]at ho';obtain⟨rfl,rfl,rfl⟩:=ho';obtain⟨xs,hx⟩:=hs.own i _ _ _ hi hq;refine⟨xs,hx.1,?_⟩;rcases hx.2 with hv | ⟨g1,a14,aP4,fz1,hv,nV,lD,_,r⟩
   .rw[hρ]at hv;simp at hv
   .rw[hρ]at hv;simp only[yBH,yAb,yBD,yAW]at hv;obtain⟨rfl,_,rfl⟩:=hv;rw[hg]at lD;simp only[yAb,Obj.cells.injEq]at lD;obtain⟨rfl,_,rfl⟩:=lD;exact .inr ⟨g,cap,cur,WE,hρ,nV,h2,h3,r⟩
  .obtain⟨xs,hx⟩:=hs.own i e0 s m hi ho;exact⟨xs,L9 hx (λg' hg'=>far i g' hi hii hg')⟩
 .intro i e0 sz ver ds hi ho;obtain⟨b',C,cur,e1,e2,e3,e4,e5,e6,e7,e8⟩:=hs.row i e0 sz ver ds hi ho;exact⟨b',C,cur,e1,by show w'.heap[b']?=_;rw[far i b' hi (hne i _ ho (λ_ _ _ e=>xx)) Ah];exact e2,e3,e4,e5,e6,e7.mono nx,e8⟩
 .intro i es hi ho;obtain⟨b',ents,clock,e1,e2,e3,e4⟩:=hs.map i es hi ho;exact⟨b',ents,clock,e1,by show w'.heap[b']?=_;rw[far i b' hi (hne i _ ho (λ_ _ _ e=>xx)) Ah];exact e2,e3.mono nx,e4.mono nx⟩
 .intro i hi hm;obtain⟨b',e1,e2⟩:=hs.mark i hi hm;exact⟨b',e1,by show w'.heap[b']?=_;rw[far i b' hi (hne i _ hm (λ_ _ _ e=>xx)) Ah];exact e2⟩
 .intro i st fr ps asg bd hi hm;obtain⟨b',r,e1,e2,e3,e4,e5,e6,e7⟩:=hs.loop i st fr ps asg bd hi hm;exact⟨b',r,e1,by show w'.heap[b']?=_;rw[far i b' hi (hne i _ hm (λ_ _ _ e=>xx)) Ah];exact e2,e3,e4,e5,e6.mono nx,e7⟩
 .intro i b hi hbi;show b<w'.heap.size
  rw[h0.2.2.2];exact hs.lt i b hi hbi
 .intro a ha;have:w'.heap.size<=a.block:=ha;rw[h0.2.2.2]at this;exact hs.fresh a this
end
def KL:List PD->Option (List UInt8)
 | []=>some []
 |.int .u8 n::r=>if 0<=n/\n<256 then(match KL r with|some l=>some (UInt8.ofNat n.toNat::l)|none=>none)else none
 |_=>none
@[simp] theorem aAC:∀l:List UInt8,KL (l.map λb=>PD.int .u8 b.toNat)=some l
  | []=>rfl
  |b::r=>by
   have hb:(b.toNat:Int)<256:=by have:=b.toNat_lt;omega
   have h0:(0:Int)<=(b.toNat:Int):=xb;simp only[yB,KL,hb,h0,and_self,yAM,aAC r,yBq];simp
theorem aIy:∀ {xs:Bw} {l:Bx},KL xs=some l->xs=l.map λb=>PD.int .u8 b.toNat
 | [],l,h=>by simp only[KL,yAb]at h;subst h;rfl
 |x::r,l,h=>by
  unfold KL at h;split at h
  .cases ‹_::_=[]›
  .rename_i n r' heq;simp only[yBs]at heq;obtain⟨rfl,rfl⟩:=heq;split at h
   .rename_i hn;split at h
    .rename_i l' hl;simp only[yAb]at h;subst h;rw[yB,<-aIy hl]
     congr 2
     have:(UInt8.ofNat n.toNat).toNat=n.toNat:=by
      simp only[yDq];omega
     omega
    .cases h
   .cases h
  .cases h
end
end Go.Kz
namespace Go.Kz
open Go Go.Proofs
@[simp] theorem Tryz.VV:bS prog 3=some 1:=xg
@[simp] theorem Tryz.pz3:dS prog 3=some (.int .i64 0):=xg
@[simp] theorem Tryz.ps4:bS prog 4=some 1:=xg
@[simp] theorem Tryz.ps5:bS prog 5=some 1:=xg
@[simp] theorem Tryz.pz5:dS prog 5=some (.int .u8 0):=xg
@[simp] theorem Tryz.ps9:bS prog 9=some 1:=xg
@[simp] theorem Tryz.pz9:dS prog 9=some (.str []):=xg
@[simp] theorem Tryz.a1j:bS prog 23=some 2:=xg
@[simp] theorem Tryz.a1k:dS prog 23=some (.agg [.int .i64 0,.int .i64 0]):=xg
@[simp] theorem Tryz.a1l:bS prog 25=some 1:=xg
@[simp] theorem Tryz.a1m:dS prog 25=some (.int .i64 0):=xg
@[simp] theorem Tryz.a1n:bS prog 29=some 1:=xg
@[simp] theorem Tryz.a1o:bS prog 31=some 2:=xg
@[simp] theorem Tryz.a1p:dS prog 31=some (.agg [.int .i64 0,.int .i64 0]):=xg
@[simp] theorem Tryz.a1q:bS prog 36=some 7:=xg
@[simp] theorem Tryz.a1r:dS prog 36=some (.agg [.int .i64 0,.str [],.int .i64 0,.int .i64 0,.int .i64 0,.int .i64 0,.int .i64 0]):=xg
@[simp] theorem Tryz.a1s:bS prog 38=some 1:=xg
@[simp] theorem Tryz.a1t:bS prog 39=some 1:=xg
@[simp] theorem Tryz.a1u:bS prog 40=some 1:=xg
@[simp] theorem Tryz.a1v:bS prog 42=some 4:=xg
@[simp] theorem Tryz.a1w:dS prog 42=some (.agg [.str [],.slice 0 [] .full,.slice 0 [] .full,.slice 0 [] .full]):=xg
@[simp] theorem Tryz.a1x:bS prog 45=some 1:=xg
@[simp] theorem Tryz.a1y:bS prog 59=some 2:=xg
@[simp] theorem Tryz.a1z:dS prog 59=some (.agg [.int .i64 0,.int .i64 0]):=xg
@[simp] theorem Tryz.a1A:bS prog 60=some 1:=xg
@[simp] theorem Tryz.a1B:bS prog 62=some 5:=xg
@[simp] theorem Tryz.a1C:dS prog 62=some (.agg [.str [],.bool false,.int .i64 0,.int .i64 0,.slice 0 [] .full]):=xg
@[simp] theorem Tryz.a1D:bS prog 63=some 1:=xg
@[simp] theorem Tryz.a1E:bS prog 65=some 4:=xg
@[simp] theorem Tryz.a1F:dS prog 65=some (.agg [.str [],.int .i64 0,.int .i64 0,.slice 0 [] .full]):=xg
@[simp] theorem Tryz.a1G:bS prog 82=some 1:=xg
@[simp] theorem Tryz.a1H:bS prog 84=some 6:=xg
@[simp] theorem Tryz.a1I:dS prog 84=some (.agg [.str [],.str [],.int .i64 0,.int .i64 0,.int .i64 0,.slice 0 [] .full]):=xg
@[simp] theorem Tryz.a1J:bS prog 118=some 5:=xg
@[simp] theorem Tryz.a1K:dS prog 118=some (.agg [.str [],.int .i64 0,.int .i64 0,.int .i64 0,.bool false]):=xg
@[simp] theorem Tryz.a1L:bS prog 123=some 2:=xg
@[simp] theorem Tryz.a1M:dS prog 125=some (.agg [.dJ,.slice 0 [] .full,.int .i64 0]):=xg
@[simp] theorem Tryz.a1N:bS prog 127=some 1:=xg
@[simp] theorem Tryz.a1O:bS prog 129=some 3:=xg
@[simp] theorem Tryz.a1P:dS prog 129=some (.agg [.int .i64 0,.int .i64 0,.slice 0 [] .full]):=xg
@[simp] theorem Tryz.a1Q:bS prog 131=some 2:=xg
@[simp] theorem Tryz.a1R:dS prog 131=some (.agg [.int .i64 0,.int .i64 0]):=xg
@[simp] theorem Tryz.a1S:bS prog 156=some 3:=xg
@[simp] theorem Tryz.a1T:dS prog 156=some (.agg [.str [],.str [],.str []]):=xg
@[simp] theorem Tryz.a1U:bS prog 167=some 1:=xg
@[simp] theorem Tryz.a1V:bS prog 170=some 1:=xg
@[simp] theorem Tryz.a1W:dS prog 170=some (.agg [.dJ]):=xg
@[simp] theorem Tryz.a1X:bS prog 188=some 3:=xg
@[simp] theorem Tryz.a1Y:dS prog 188=some (.agg [.slice 0 [] .full,.int .i64 0,.int .i64 0]):=xg
@[simp] theorem Tryz.a1Z:dS prog 196=some (.agg [.int .i64 0,.int .i64 0,.int .i64 0]):=xg
@[simp] theorem Tryz.a10:bS prog 204=some 3:=xg
@[simp] theorem Tryz.a11:dS prog 204=some (.agg [.int .i64 0,.int .i64 0,.int .i64 0]):=xg
@[simp] theorem Tryz.a13:dS prog 208=some (.agg [.slice 0 [] .full,.int .i64 0]):=xg
attribute [simp] underlying1 underlying2 underlying3 underlying4 underlying5 underlying6 underlying7 underlying8 underlying9 underlying10 underlying11 underlying12 underlying13 underlying14 underlying15 underlying16 underlying17 underlying18 underlying19 underlying20 underlying21 underlying22 underlying23 underlying24 underlying25 underlying27 underlying28 underlying29 underlying30 underlying31 underlying33 underlying34 underlying35 underlying36 underlying37 underlying38 underlying39 underlying40 underlying41 underlying42 underlying44 underlying45 underlying46 underlying47 underlying48 underlying49 underlying50 underlying51 underlying52 underlying53 underlying54 underlying55 underlying57 underlying58 underlying59 underlying60 underlying61 underlying62 underlying63 underlying64 underlying65 underlying66 underlying67 underlying68 underlying69 underlying70 underlying71 underlying72 underlying73 underlying74 underlying75 underlying76 underlying77 underlying79 underlying80 underlying81 underlying82 underlying83 underlying84 underlying85 underlying86 underlying87 underlying88 underlying89 underlying90 underlying91 underlying92 underlying93 underlying94 underlying95 underlying96 underlying97 underlying98 underlying99 underlying101 underlying102 underlying103 underlying104 underlying105 underlying106 underlying107 underlying108 underlying109 underlying110 underlying111 underlying112 underlying113 underlying114 underlying115 underlying116 underlying117 underlying118 underlying119 underlying120 underlying121 underlying122 underlying123 underlying124 underlying125 underlying126 underlying127 underlying128 underlying129 underlying130 underlying131 underlying132 underlying133 underlying134 underlying135 underlying136 underlying137 underlying138 underlying139 underlying140 underlying141 underlying142 underlying143 underlying144 underlying145 underlying146 underlying147 underlying148 underlying149 underlying150 underlying151 underlying152 underlying153 underlying154 underlying155 underlying156 underlying158 underlying160 underlying161 underlying162 underlying163 underlying164 underlying165 underlying166 underlying167 underlying168 underlying169 underlying170 underlying171 underlying172 underlying173 underlying174 underlying176 underlying177 underlying178 underlying179 underlying181 underlying182 underlying183 underlying184 underlying185 underlying186 underlying187 underlying188 underlying189 underlying190 underlying191 underlying192 underlying193 underlying194 underlying195 underlying196 underlying198 underlying200 underlying201 underlying202 underlying203 underlying204 underlying206 underlying207 underlying208 underlying210 underlying211 underlying212 underlying213 underlying214 underlying215 underlying216 underlying217 underlying218 underlying219 underlying220 underlying221 underlying223 underlying224 underlying225 underlying226 underlying228 underlying229 underlying230 underlying231 underlying233 underlying234 underlying235 underlying236 underlying237 underlying238 underlying239 underlying240 underlying241 underlying242 underlying243 underlying244 underlying245 underlying246 underlying247 underlying248 underlying249 underlying250 underlying252 underlying253 underlying254 underlying255 underlying256 underlying258 underlying259 underlying260 underlying261 underlying262 underlying263 underlying265 underlying266 underlying267 underlying268 underlying269 underlying270 underlying271 underlying272 underlying273 underlying274 underlying275 underlying276 underlying278 underlying279 underlying281 underlying282 underlying283 underlying284 underlying285 underlying286 underlying287 underlying288 underlying289 underlying290 underlying291 underlying292 underlying293
section
set_option maxRecDepth 10000
theorem Tryz.aQS:prog.eqGuardType prog.depth 23=false:=xg
theorem Tryz.aQT:CL prog 12 23=some [.i .i64,.i .i64]:=xg
theorem Tryz.aQU:fA prog 23=some true:=xg
@[simp] theorem Tryz.a2a{a0 b0:Int}{a1 b1:Int}:dZ prog .eql 23 (.agg [.int .i64 a0,.int .i64 a1]) (.agg [.int .i64 b0,.int .i64 b1])=some (.bool (decide (a0=b0)&&(decide (a1=b1)&&true))):=aCI Tryz.aQS Tryz.aQT Tryz.aQU rfl
theorem Tryz.aQV:prog.eqGuardType prog.depth 31=false:=xg
theorem Tryz.aQW:CL prog 12 31=some [.i .i64,.i .i64]:=xg
theorem Tryz.aQX:fA prog 31=some true:=xg
@[simp] theorem Tryz.a2b{a0 b0:Int}{a1 b1:Int}:dZ prog .eql 31 (.agg [.int .i64 a0,.int .i64 a1]) (.agg [.int .i64 b0,.int .i64 b1])=some (.bool (decide (a0=b0)&&(decide (a1=b1)&&true))):=aCI Tryz.aQV Tryz.aQW Tryz.aQX rfl
theorem Tryz.aQY:prog.eqGuardType prog.depth 131=false:=xg
theorem Tryz.aQZ:CL prog 12 131=some [.i .i64,.i .i64]:=xg
theorem Tryz.aQ0:fA prog 131=some true:=xg
@[simp] theorem Tryz.a2c{a0 b0:Int}{a1 b1:Int}:dZ prog .eql 131 (.agg [.int .i64 a0,.int .i64 a1]) (.agg [.int .i64 b0,.int .i64 b1])=some (.bool (decide (a0=b0)&&(decide (a1=b1)&&true))):=aCI Tryz.aQY Tryz.aQZ Tryz.aQ0 rfl
end
end Go.Kz
namespace Go.Kz
section
noncomputable section
section
variable{β:Type}
def handed(p:PD):Option Nat:=match p with
 |.ptr id _=>some id
 |.gO id _ _=>some id
 |.fR id _ _ _=>some id
 |.fF id _ _ _ _=>some id
 |.gG id=>some id
 |.slice _ _ (.own id)=>some id
 |_=>none
end
variable{P:Program}{E:aE}
end
end
structure a19 where
 a:Bw
 s:Bv
 p:PD
 s':Bv
theorem aH.pick{P:Program}{E E0:aE}(hE:aH P E)(h0:aH P E0){f:FuncId}{g}(h:E f=some g):aH P (E0.add f g):=by
 refine⟨fun {F fl f' g' args c vs p σ'} hF hg hgo hs hX hv=>?_,h0.aZ⟩;rw[aE.tI]at hg;split at hg
 .rename_i e;subst e;simp only[yAb]at hg;subst hg;exact hE.ret hF h hgo hs hX hv
 .exact h0.ret hF hg hgo hs hX hv
section
open Go
def QH(ops:Array Oper):Bool:=tJ ops.toList [] λms=>
 (List.range ops.size).all λk=>!eN eO ops.toList k||(List.range ops.size).all λi=>!eN dA ops.toList i||!loose ms i k
def U0(f:Nat)(ops:Array Oper):Bool:=tJ ops.toList [] λms=>
 (List.range ops.size).any λk=>aFG (aFH f) ops.toList k&&!j9 ops.toList ms k&&(List.range k).all λj=>!eN cI ops.toList j&&!eN eO ops.toList j
section
variable{P:Program}{E:aE}{fl:Nat}{ops:Cb}
theorem aGI{n f:Nat}{g:Bq}(hE:E f=some g)(hg:∀fl args σ,0<fl->g fl args σ=none){ms:List Nat}(hsh:∀o∈ops.toList,(cW o.op||dA o.op||bZ o.op||iW o.op||cX o.op)=true) :
  ∀(d i k:Nat) (l:List Oper) (fr:List PD) (σ:List U) (o:Oper),ops.toList.drop i=l->σ≠[]->l[d]?=some o->aFH f o=true->j9 ops.toList ms (i+d)=false->(∀j o',j<d->l[j]?=some o'->cI o'.op=false/\eO o'.op=false) ->
   fY P (bV P E n) fl ops ms i k l fr σ=none
 |0,i,k,l,fr,σ,o,hl,mV,ho,hc,hn,_=>by
  cases l with
  |nil=>simp at ho
  |cons o' l=>
   simp only[yBv,yAb]at ho;subst ho;rw[yBU]at hn;simp only[aFH,yAr]at hc;obtain⟨hgd,hc⟩:=hc;obtain⟨dst,op,ty,pos,edges,guard⟩:=o';simp only at hc hgd;split at hc
   .rename_i g' args ts hop;simp only[yBx]at hc;subst hc;have hgn:guard=none:=by cases guard<;>simp_all
    subst hgn;have hp:bI P (bV P E n) (max fl σ.length) fr σ (.call { callee:=.value (.func g'),args:=args,argTypes:=ts })=none:=by
     have hpos:0<max fl σ.length:=by
      have:0<σ.length:=yBu.2 mV;omega
     unfold bI;cases ha:iX fr args.toList with
     |none=>
      have:dI fr (.call { callee:=.value (.func g'),args:=args,argTypes:=ts })=none:=by simp[dI,aT,ha]
      rw[this];simp[pop,dD,cK]
     |some ps=>
      have:dI fr (.call { callee:=.value (.func g'),args:=args,argTypes:=ts })=some (.inl g',ps++[]):=by simp[dI,aT,ha]
      rw[this];simp only[bV,oJ,hE,hg _ _ _ hpos]
    simp only[fY,Region.wanted,yAM,hn];unfold eA;simp only[cW,bZ,cI,yAx,yAN,yBR,yCP,yAM,hp]
   .cases hc
 |d+1,i,k,l,fr,σ,o,hl,mV,ho,hc,hn,hm=>by
  cases l with
  |nil=>simp at ho
  |cons o' l=>
   have hmem:o'∈ops.toList:=by
    have:o'∈ops.toList.drop i:=by rw[hl];simp
    exact yBN this
   have hs1:=hsh o' hmem;obtain⟨hm0,hs2⟩:=hm 0 o' xb wz;have hl':ops.toList.drop (i+1)=l:=by rw[<-yBk,hl];rfl
   have hrec:=λk fr=>aGI (n:=n) hE hg hsh d (i+1) k l fr σ o hl' mV yz hc (by rw[show i+1+d=i+(d+1) by omega];exact hn) (λj o'' hj h=>hm (j+1) o'' xb yf)
   simp only[fY];split
   .split
    .rename_i p σ1 hp;obtain rfl:=aHL hs1 (by unfold cX;rw[hs2,hm0];rfl) hp;rw[hrec]
    .rfl
   .rw[hrec]
def bW.UY(fr:List PD):List (Nat×Nat)->Prop
 | []=>True
 |x::l=>(∃p,lk fr x.1=some p/\jH p=some x.2)/\bW.UY fr l
theorem bW.aCq{fr:Bw}:∀(l:List (Nat×Nat)),bW.UY fr l->(bW.of l).ok fr
 | [],_=>λ_ _ _ h=>xz
 |x::l,⟨⟨p,h1,h3⟩,h2⟩=>λt id id' h h'=>by
  unfold bW.of at h
  by_cases e:x.1=t
  .rw[yAJ e]at h;simp only[yAb]at h;rw[Z9,e]at h1;rw[yAA,h1]at h';simp only[yBY,h3,yAb]at h';rw[<-h',h]
  .rw[yAI e]at h;exact bW.aCq l h2 t id id' h h'
end
end
section
open Go.RowKit
set_option linter.unusedSectionVars false
def Tok.sh(n:Nat):Tok->Tok
 |.own id=>.own (id+n)
 |t=>t
mutual
def PD.sh(n:Nat):PD->PD
 |.bool b=>.bool b
 |.int k z=>.int k z
 |.str s=>.str s
 |.agg cs=>.agg (PD.JS n cs)
 |.slice sz xs t=>.slice sz (PD.JS n xs) (t.sh n)
 |.ptr id off=>.ptr (id+n) off
 |.cP cs off=>.cP (PD.JS n cs) off
 |.dJ=>.dJ
 |.func f cap=>.func f (PD.JS n cap)
 |.oR f xs=>.oR f (PD.JS n xs)
 |.yield id=>.yield (id+n)
 |.kF=>.kF
 |.bL v=>.bL v
 |.typed t cs=>.typed t (PD.JS n cs)
 |.fR id off m sz=>.fR (id+n) off m sz
 |.fF id ver off m sz=>.fF (id+n) ver off m sz
 |.gO id ver off=>.gO (id+n) ver off
 |.gG id=>.gG (id+n)
 |.iface t p=>.iface t (PD.sh n p)
 |.aK vs=>.aK (PD.JS n vs)
def PD.JS(n:Nat):List PD->Bw
 | []=>[]
 |x::xs=>PD.sh n x::PD.JS n xs
end
def U.sh(n:Nat):U->U
 |.none=>.none
 |.box p=>.box (p.sh n)
 |.own e s m=>.own e s m
 |.row e s v cs=>.row e s v (PD.JS n cs)
 |.map es=>.map (es.map λx=>(x.1.sh n,x.2.sh n))
 |.mark=>.mark
 |.loop st fr ps asg bd=>.loop st (PD.JS n fr) ps asg bd
structure Shv (n:Nat) (c1 c2:Cx):Prop where
 cell:∀a v,c1.av a->c1.w.cell? a=some v->c2.av a/\c2.w.cell? a=some v
 aW:∀id,c1.D id->c2.D (id+n)
 rho:∀id,c1.D id->c2.ρ (id+n)=c1.ρ id
 obj:∀id,c2.σ[id+n]?=(c1.σ[id]?).map (U.sh n)
section
variable{c c1:Cx}
variable(hs:Sr c)(hs1:Sr c1)(nx:Nx 0 c.bare c1)
include hs nx
include hs1
end
end
def RZ(g1 g2:Nat->List PD->List U->Option (PD×List U)):Nat->List PD->List U->Option (PD×List U):=λfl args σ=>match g1 fl args σ with
 |some x=>some x
 |none=>g2 fl args σ
theorem aH.aTX{P:Program}{E:aE}{f:FuncId}{g1 g2}(h1:aH P (E.add f g1))(h2:aH P (E.add f g2)):aH P (E.add f (RZ g1 g2)):=by
 refine⟨fun {F fl f' g' args c vs p σ'} hF hg hgo hs hX hv=>?_,h1.aZ⟩
 by_cases e:f'=f
 .have e0:∀g,(E.add f g) f'=some g:=λg=>by rw[aE.tI,yAJ e]
  rw[e0]at hg;simp only[yAb]at hg;subst hg;unfold RZ at hgo;split at hgo
  .rename_i x hx;simp only[yAb]at hgo;subst hgo;exact h1.ret hF (e0 g1) hx hs hX hv
  .exact h2.ret hF (e0 g2) hgo hs hX hv
 .have e0:∀g g',(E.add f g) f'=(E.add f g') f':=λg g'=>by rw[aE.tI,aE.tI,yAI e,yAI e]
  rw[e0 _ g1]at hg;exact h1.ret hF hg hgo hs hX hv
def aCu(g:Nat->List PD->List U->Option (PD×List U)):Prop:=∀fl args σ p σ',g fl args σ=some (p,σ')->σ'≠[]
section
open Go Go.RowKit
theorem aIU{P:Program}{w:World}{nm:String}{d:DataW Unit}:∀ {laid:List (String×DataW Unit)} {ps:List MemPlace},DataW.LaidVars P w laid ps->(nm,d)∈laid ->
  ∃g t cs fuel p,P.globalNamed nm=some g/\(P.globals[g]?).map (·.type)=some t/\w.var? P nm=some cs/\DataW.trod (λ_=>()) P w 0 (λ_=>true) false fuel t cs.toList=some (d,p)
 | [],_,_,hm=>by cases hm
 |(n,d')::r,ps,h,hm=>by
  obtain⟨g,t,cs,fuel,p,q,h1,h2,h3,h4,h5,_⟩:=h;rcases yAS.1 hm with e|hm
  .simp only[yAc]at e;obtain⟨rfl,rfl⟩:=e;exact⟨g,t,cs,fuel,p,h1,h2,h3,h4⟩
  .exact aIU h5 hm
theorem aCx{P:Program}{w:World}{laid:List (String×DataW Unit)}{ps:List MemPlace}{nm:String}{k:IntKind}{xs:List Int}{g n:Nat}{t e:TypeId}(h:DataW.LaidVars P w laid ps)
  (hm:(nm,(.agg (xs.map λx=>.lit (.int k x)):DataW Unit))∈laid)
  (hg:P.globalNamed nm=some g) (ht:(P.globals[g]?).map (·.type)=some t) (hu:P.underlying t=some (.array n e)) (he:P.underlying e=some (.int k)) (hc:P.cellsOf e=1) (hct:P.cellsOf t=n) :
  ∃T fz,w.heap[g]?=some (.cells ((xs.map (Value.int k)).toArray) T fz):=by
 obtain⟨g1,t1,RM,f1,p1,lD,KD,kQ,oL⟩:=aIU h hm;obtain rfl:=yBr (hg.symm.trans lD);obtain rfl:=yBr (ht.symm.trans KD);obtain⟨ys,m1,rfl,hx1,hlen,hn,hel⟩:=DataW.trod_array hu oL;simp only[yAc,DataW.agg.injEq]at hx1;have hxl:xs.length=n:=by
  have:=yAP List.length hx1.1;simp only[yAe]at this;omega
 have key:∀(j:Nat) (x:Int),xs[j]?=some x->RM[j]?=some (Value.int k x):=by
  intro j x hj;have hjl:j<n:=by rw[<-hxl];exact(yA.1 hj).1
  have hy:ys[j]?=some ys[j]:=yAh xb;have h1:=hel j hjl;rw[hy,hc,yDb]at h1;obtain⟨v,e1,e2,_⟩:=DataW.trod_int he h1;have h2:=yAP (λl=>l[j]?) hx1.1;simp only[yAo,hj,hy,yAC,yAb,e2,DataW.lit.injEq,Lit.int.injEq]at h2;have h3:=yAP (λl=>l[0]?) e1;simp only[yAv,yBC,yBU,Nat.zero_lt_one,yAM,yBv]at h3;rw[<-yCd,h3,h2.2]
 have hcs:RM=(xs.map (Value.int k)).toArray:=by
  apply yBK;apply yBT;intro j;rw[yAo];cases hx:xs[j]? with
  |some x=>rw[yCd,key j x hx];rfl
  |none=>
   have hj:xs.length<=j:=List.getElem?_eq_none_iff.1 hx;rw[yBp (by rw[hlen,hct];omega)];rfl
 have hv:=kQ;unfold World.var? at hv;rw[hg,yCT]at hv;split at hv
 .rename_i cs T fz hh;simp only[yAb]at hv;exact⟨T,fz,by rw[hh,hv,hcs]⟩
 .cases hv
theorem aCy{w:World}{g:Nat}{k:IntKind}{xs:List Int}{T:TypeId}{fz:Nat×Nat}(h:w.heap[g]?=some (.cells ((xs.map (Value.int k)).toArray) T fz)):VR (.start w) (.pointer (some ⟨g,0,none⟩)) (.cP (xs.map (PD.int k)) 0):=by
 have hadd:∀j,(⟨g,0,none⟩:Addr).add j=⟨g,j,none⟩:=λj=>xq
 have:=VR.cP (c:=.start w) ⟨g,0,none⟩ (xs.map (Value.int k)) (xs.map (PD.int k)) 0 wz (by simp[Value.oneCell']) (λj v hj=>by
  rw[hadd];refine⟨?_,aHb _⟩;show w.cell? ⟨g,j,none⟩=some v
  unfold World.cell?;simp only[h];simpa using hj) (λj v d h1 h2=>by
  rw[yAo]at h1 h2;cases hx:xs[j]? with
  |none=>rw[hx]at h1;simp at h1
  |some x=>
   rw[hx]at h1 h2;simp only[yAC,yAb]at h1 h2;subst h1 h2;exact .int k x)
 rw[hadd]at this;exact this
theorem aNX{P:Program}{w:World}{g:Nat}{t:TypeId}{k:IntKind}{zero:Ca}(h:w.ShapedOpen P)(hg:g<P.globals.size)
  (h0:((begin P (λ_ _=>0) default).world.heap[g]?).bind Obj.row?=some (zero,t)) (hz:zero.size=1) (hb:P.buildable t=true) (hty:P.cellTypes P.depth t=some [t]) (hu:P.underlying t=some (.int k)) :
  ∃m,∃T fz,w.heap[g]?=some (.cells #[.int k m] T fz):=by
 obtain⟨cs,h1,h2,h3⟩:=h.1 g zero t hg h0;have h4:=h3 hb;obtain⟨ts,e1,_,h5⟩:=h4;obtain rfl:=yBr (hty.symm.trans e1);have hsz:cs.size=1:=xb;obtain⟨u,e2,h6⟩:=h5 0 cs[0] (yCe xb);simp only[yBb,Nat.zero_mod,yBv,yAb]at e2;subst e2;unfold Cell.ok at h6;rw[hu]at h6;have hv:∃m,cs[0]=.int k m:=by
  cases hc:cs[0]with
  |int k' m=>
   rw[hc]at h6;simp only at h6;exact⟨m,by rw[h6.1]⟩
  |_=>
   rw[hc]at h6;simp at h6
 obtain⟨m,hm⟩:=hv;refine⟨m,t,(0,0),?_⟩;rw[h1];have:cs=#[.int k m]:=by
  apply Array.ext
  .simpa using hsz
  .intro i hi1 hi2;have:i=0:=xb;subst this;simpa using hm
 rw[this]
end
section
open Go Go.RowKit
theorem aNM{H:Type}{enc:TypeId×Value->H}{a:Assume}{C:Checked}{os:Os}{f:FuncId}{fn:Func}{s:ChangeSpec}{conds:List PathCond}{apart fresh handsOn again:Bool}{X:World->Array Value->Prop}
  (hX:∀(w w':World) (args:Array Value),w.heap=w'.heap->X w args->X w' args)
  (own:ownKnob C.prog.godebug=none) (started:os.Started) (noInit:C.prog.inits.idxOf? f=none) (hfn:C.prog.funcs[f]?=some fn)
  (witness:∃(w:World) (tape:Tape) (i:Input),w.os=os/\(w.forCall tape i).Shaped C.prog/\i.vars=[]/\Input.okWide C.prog (w.forCall tape i) .any w.heap.size f i /\
   ((s.pre enc C.prog fn conds apart (w.forCall tape i).memory i.args/\X (w.forCall tape i).memory i.args)/\sizedMet enc C.prog fn (OpenSpec.ofChange s) apart (w.forCall tape i).memory i.args)/\a.holds C.prog (lone (Frame.enter C.prog f i.args .normal) [] (w.forCall tape i)))
  (contract:∀(W:World) (base:Nat) (args:Array Value) (ds gs:List (DataW H)) (before:List MemPlace),W.ShapedOpen C.prog ->
   (∀(j:Nat) t v,fn.params[j]?=some t->args[j]?=some v->Value.okWide C.prog W .any base t v) ->
   DataW.Whole enc C.prog fn.params.toList s.vars apart W args.toList ds gs before ->
   conds.all (PathCond.test C.prog ⟨fn.params.toList,ds,s.plain.varTypes C.prog,gs⟩)=true ->
   (DataW.weightsEach C.prog (fn.params.toList++s.plain.varTypes C.prog) (ds++gs)).all (·<=reachBytes)=true->X W args ->
   a.holds C.prog (lone (Frame.enter C.prog f args .normal) [] W) ->
   Calls C.prog f args W λe W'=>∃v,e=.returned v/\s.post enc C.prog fn apart fresh handsOn again W args v W') :
  ReturnsInHanded a C os f .any (λw args=>(s.pre enc C.prog fn conds apart w args/\X w args)/\sizedMet enc C.prog fn (OpenSpec.ofChange s) apart w args) (s.post enc C.prog fn apart fresh handsOn again):=by
 refine returnsInHanded_of_calls own started noInit witness ?_;intro w tape i _ hsh _ hok hpre hholds;obtain⟨_,_,_,fn',aQ1,_,_,_,_,hval⟩:=hok;obtain rfl:fn'=fn:=yBr (aQ1.symm.trans hfn);obtain⟨⟨⟨ds,gs,before,hw,hc⟩,hx⟩,hz⟩:=hpre;have hw':=DataW.Whole.of_heap (w':=w.forCall tape i) xe hw;refine(contract (w.forCall tape i) w.heap.size i.args ds gs before hsh hval hw' hc (hz.weights hw) (hX _ _ _ xe hx) hholds).mono λe W' ⟨v,he,hp⟩=>?_
 subst he;exact ChangeSpec.post_blind hp
end
section
open Go.RowKit
section
variable{H:Type}{enc:TypeId×Value->H}{P:Program}{w:World}{base:Nat}{sp:Nat->Bool}{held:Bool}
end
end
section
open Go
section
variable{P:Program}{call:cO}{fl:Nat}{ops:Cb}
end
section
variable{P:Program}{E:aE}{fl:Nat}{fr:Bw}{σ:Bv}
end
section
variable{P:Program}{call:cO}{fl:Nat}{ops:Cb}
end
section
variable{P:Program}{E:aE}{fl:Nat}{fr:Bw}{σ:Bv}
end
end
section
open Go.RowKit Go.Lib
variable{P:Program}
structure Kept (p:Prop):Prop where
 out:p
theorem aUN{c:Cx}{vs:Bz}{p q r:PD}(h:aJ c vs [p,q,r]):∃v u x,vs=[v,u,x]/\VR c v p/\VR c u q/\VR c x r:=by
 match vs,h.1 with
 | [v,u,x],_=>exact⟨v,u,x,rfl,h.2 0 _ _ rfl rfl,h.2 1 _ _ rfl rfl,h.2 2 _ _ rfl rfl⟩
theorem aUM(a:Addr)(j:Nat):(a.add j).block=a.block:=by cases a;unfold Addr.add;split<;>rfl
end
section
def isApp:Op->Bool
 |.call { callee:=.builtin .append,.. }=>true
 |_=>false
def aNo:Op->Bool
 |.call { callee:=.value _,.. }=>true
 |_=>false
def iK(op:Op)(σ σ':List U):Prop:=σ.length<=σ'.length/\∀(id:Nat) (b:PD),σ[id]?=some (U.box b)->∃b',σ'[id]?=some (U.box b')/\(eO op=false->b'=b)
theorem iK.same(op:Op)(σ:List U):iK op σ σ:=⟨yAk _,λ_ b h=>⟨b,h,λ_=>rfl⟩⟩
theorem iK.app(op:Op)(σ L:List U):iK op σ (σ++L):=⟨wz,λid b h=>⟨b,yc,λ_=>rfl⟩⟩
theorem iK.set(op:Op){σ:Bv}{id:Nat}{o x:U}(ho:σ[id]?=some o)(hb:∀b,o≠U.box b):iK op σ (σ.set id x):=⟨wz,λi b h=>by
 by_cases e:id=i
 .subst e;rw[ho,yAb]at h;exact absurd h (hb b)
 .exact⟨b,by rw[yAd e];exact h,λ_=>rfl⟩⟩
theorem iK.aZf{op:Op}(hop:eO op=true){σ:Bv}{id:Nat}{q:PD}:iK op σ (σ.set id (.box q)):=⟨wz,λi b hb=>by
 by_cases e:id=i
 .subst e;exact⟨q,yAj (yA.1 hb).1,λh=>by rw[hop]at h;cases h⟩
 .exact⟨b,by rw[yAd e];exact hb,λ_=>rfl⟩⟩
theorem aZg{P:Program}{fl:Nat}{σ σ':Bv}{t:TypeId}{s x p:PD}(op:Op)(h:dV P fl σ t s x=some (p,σ')):iK op σ σ':=by
 unfold dV at h
 repeat' split at h
 all_goals first
  |(cases h;done)
  |(simp only[yAb,yAc]at h;obtain⟨_,rfl⟩:=h;first|exact iK.same _ _|exact iK.app _ _ _|exact iK.set _ ‹_=some (U.own _ _ _)› (λb e=>xx))
theorem aNp{P:Program}{n fl:Nat}{σ σ':Bv}{t:TypeId}{s x p:PD}(op:Op)(h:mD P n fl σ t s x=some (p,σ')):iK op σ σ':=by
 unfold mD at h
 repeat' split at h
 all_goals first
  |(cases h;done)
  |(simp only[yAb,yAc]at h;obtain⟨_,rfl⟩:=h;first|exact iK.same _ _|exact iK.app _ _ _|exact iK.set _ ‹_=some (U.row _ _ _ _)› (λb e=>xx))
theorem aZh{P:Program}{fl:Nat}{σ σ':Bv}{t:TypeId}{a p:PD}{op:Op}(hop:eO op=true)(h:pC P fl σ t a p=some σ'):iK op σ σ':=by
 unfold pC at h
 repeat' split at h
 all_goals first
  |(cases h;done)
  |skip
 .simp only[yAb]at h;subst h;exact iK.aZf hop
 .simp only[yAb]at h;subst h;exact iK.set _ ‹_=some (U.row _ _ _ _)› (λb e=>xx)
theorem aZi{P:Program}{n:Nat}{σ σ':Bv}{t:TypeId}{s p:PD}{m:Int}(op:Op)(h:LY P n σ t s m=some (p,σ')):iK op σ σ':=by
 unfold LY at h
 repeat' split at h
 all_goals first
  |(cases h;done)
  |(simp only[yAb,yAc]at h;obtain⟨_,rfl⟩:=h;exact iK.app _ _ _)
theorem aZj{P:Program}{σ σ':Bv}{t e:TypeId}{l k:Nat}{p:PD}(op:Op)(h:KG P σ t e l k=some (p,σ')):iK op σ σ':=by
 unfold KG at h
 repeat' split at h
 all_goals first
  |(cases h;done)
  |(simp only[yAb,yAc]at h;obtain⟨_,rfl⟩:=h;first|exact iK.same _ _|exact iK.app _ _ _)
def kM(op:Op):Bool:=cW op||dA op||iW op||eO op||isApp op
theorem aZk{P:Program}{fl:Nat}{fr:Bw}{σ σ':Bv}{op:Op}{p:PD}(hop:kM op=true)(h:pop P fl fr σ op=some (p,σ')):iK op σ σ':=by
 unfold pop at h;split at h
 .simp only[yAb,yAc]at h;rw[<-h.2];exact iK.same _ _
 unfold cK at h;split at h
 all_goals first
  |(cases h;done)
  |(simp[kM,cW,dA,iW,eO,isApp]at hop;done)
  |skip
 .repeat' split at h
  all_goals first
   |(cases h;done)
   |(simp only[yAb,yAc]at h;rw[<-h.2];exact iK.same _ _)
 .repeat' split at h
  all_goals first
   |(cases h;done)
   |(rename_i hs;simp only[yAb,yAc]at h;rw[<-h.2];exact aZh rfl hs)
 .repeat' split at h
  all_goals first
   |(cases h;done)
   |(simp only[yAb,yAc]at h;rw[<-h.2];exact iK.same _ _)
 .repeat' split at h
  all_goals first
   |(cases h;done)
   |(simp only[yAb,yAc]at h;rw[<-h.2];exact iK.same _ _)
 .repeat' split at h
  all_goals first
   |(cases h;done)
   |exact aZj _ h
 .repeat' split at h
  all_goals first
   |(cases h;done)
   |(rename_i hs;cases h;exact aNp _ hs)
   |exact aZg _ h
   |exact aZi _ h
   |(simp only[yAb]at h;subst h;rename_i hs;exact aNp _ hs)
def JP(ops:List Oper):Bool:=ops.all λo=>kM o.op||aNo o.op
theorem aCp{op:Op}(h:kM op=true):bZ op=false/\(cI op=true->isApp op=true):=by
 cases op<;>simp[kM,cW,dA,iW,eO,isApp,bZ,cI]at h ⊢
 rename_i c;obtain⟨cal,args,ts⟩:=c;cases cal with
 |value v=>simp[cW,dA,iW,eO,isApp]at h
 |builtin b=>cases b<;>simp[cW,dA,iW,eO,isApp,cI]at h ⊢
 |invoke _ _=>simp[cW,dA,iW,eO,isApp,cI]at h ⊢
section
variable{P:Program}{E:aE}{fl:Nat}{ops:Cb}
theorem UZ:∀ {l:List Oper},JP l=true->kN P l=some []
 | [],_=>rfl
 |o::l,h=>by
  simp only[JP,yBG,yAr]at h;unfold kN;split
  .rename_i t ho;have h1:=h.1;rw[ho]at h1;cases h1
  .exact UZ h.2
theorem aZl{o:Oper}(h:(kM o.op||aNo o.op)=true):bZ o.op=false:=by
 rw[yBf]at h;rcases h with h|h
 .exact(aCp h).1
 .cases ho:o.op<;>rw[ho]at h<;>first|rfl|(cases h;done)
theorem aGJ{B:List Nat}{n:Nat}:∀(l:List Oper) (i k:Nat) (fr:List PD) (σ:List U) (x:Bw×List U),(∀o∈l,(cW o.op||dA o.op||bZ o.op||iW o.op||cX o.op)=true)->JP l=true->(∀id∈B,∃b,σ[id]?=some (U.box b)) ->
  dM P (DI E B) fl ops l fr σ=some x->∃tr,oO P (bV P E n) fl ops i k l fr σ=some (tr,x.1,x.2) /\
   ∀(j:Nat) (o:Oper),l[j]?=some o->cI o.op=true->(TE.at tr x.2 j).length<=(TE.at tr x.2 (j+1)).length/\∀id∈B,id<(TE.at tr x.2 j).length->(TE.at tr x.2 (j+1))[id]?=(TE.at tr x.2 j)[id]?
 | [],_,_,_,_,x,_,_,_,h=>by
   simp only[dM,yAb]at h;subst h;exact⟨[],rfl,λj o h=>yp⟩
 |o::l,i,k,fr,σ,x,hsh,hk,hB,h=>by
  simp only[JP,yBG,yAr]at hk;obtain⟨hko,hkl⟩:=hk;have hka:=aZl hko;simp only[dM]at h;split at h
  .rename_i hw;split at h
   .rename_i p σ1 hp;have hst:bI P (bV P E n) fl fr σ o.op=some (p,σ1)/\(∀id∈B,∃b,σ1[id]?=some (U.box b))/\(cI o.op=true->σ.length<=σ1.length/\∀id∈B,id<σ.length->σ1[id]?=σ[id]?):=by
     unfold bI at hp ⊢;split at hp
     .rename_i tg args hc;obtain⟨q1,q2,q3⟩:=aWI hp;exact⟨aHj q1,λid hi=>by
       obtain⟨b,hb⟩:=hB id hi;exact⟨b,(q3 id hi (yA.1 hb).1).trans hb⟩,λ_=>⟨q2,q3⟩⟩
     .rename_i hc
      by_cases hq:kM o.op=true
      .obtain⟨b1,b2⟩:=aZk hq hp;refine⟨hp,λid hi=>by
        obtain⟨b,hb⟩:=hB id hi;obtain⟨b',hb',_⟩:=b2 id b hb;exact⟨b',hb'⟩,λhm=>⟨b1,λid hi _=>?_⟩⟩
       obtain⟨b,hb⟩:=hB id hi;obtain⟨b',hb',e⟩:=b2 id b hb;have hns:eO o.op=false:=by
        have:=(aCp hq).2 hm;cases ho:o.op<;>rw[ho]at this<;>first|rfl|(cases this;done)
       rw[hb',hb,e hns]
      .exfalso
       simp only[hq,yBX]at hko;cases ho:o.op<;>rw[ho]at hko<;>first|(cases hko;done)|skip
       rename_i c;obtain⟨cal,args,ts⟩:=c;cases cal with
       |value v=>
        rw[ho]at hp;unfold pop at hp;simp[dD,cK]at hp
       |builtin b=>cases hko
       |invoke _ _=>cases hko
    obtain⟨tr,h1,h2⟩:=aGJ (n:=n) l (i+1) k _ _ x (λo ho=>hsh o (by simp[ho])) hkl hst.2.1 h;refine⟨⟨fr,σ,p,mT fr o.op⟩::tr,?_,?_⟩
    .simp only[oO,hw,yAM,hka,yAx,yAN];rw[QU (hsh o wz) hka];simp only[Bool.or_true,hst.1,h1]
    .intro j o' ho' hm;cases j with
     |zero=>
      simp only[yBv,yAb]at ho';subst ho';rw[TE.TJ,TE.aLB,TE.aLC h1];exact hst.2.2 hm
     |succ j=>
      rw[TE.TJ,TE.TJ];exact h2 j o' (by simpa using ho') hm
   .cases h
  .rename_i hw;obtain⟨tr,h1,h2⟩:=aGJ (n:=n) l (i+1) k _ _ x (λo ho=>hsh o (by simp[ho])) hkl hB h;refine⟨⟨fr,σ,.aK [],none⟩::tr,?_,?_⟩
   .simp only[oO,hw,yAx,yAN,hka,h1]
   .intro j o' ho' hm;cases j with
    |zero=>
     rw[TE.TJ,TE.aLB,TE.aLC h1];exact⟨yAk _,λ_ _ _=>rfl⟩
    |succ j=>
     rw[TE.TJ,TE.TJ];exact h2 j o' (by simpa using ho') hm
theorem aGH{n:Nat}{fr:Bw}{σ:Bv}{x:Bw×Bv}(ρ:List (Nat×Nat))(B:List Nat){L:List (Option Nat)}(hs:(tO ops&&JP ops.toList&&QH ops)=true)(hbx:∀id∈B,∃b,σ[id]?=some (U.box b))(hd:mA P (bV P E n) fl ops fr σ=none)
  (hρ:(bW.of ρ).ok fr) (hL:TK ops.toList (bW.of ρ)=L) (hB:tX B L) (h:dM P (DI E B) fl ops ops.toList fr σ=some x):pG P (bV P E n) fl ops fr σ=some x:=by
 simp only[yAr,tO]at hs;obtain⟨⟨h1,h2⟩,h3⟩:=hs;rw[nP]at h1;have hr:=JY h1;obtain⟨tr,e1,e2⟩:=aGJ (n:=n) ops.toList 0 σ.length fr σ x (λo ho=>by
  obtain⟨i,hi⟩:=yCF ho;exact hr.shape i o Ae) h2 hbx h
 have hft:=aFF _ _ _ _ _ _ _ _ _ e1 hρ;unfold pG;rw[hd];simp only[h1,yAM,UZ h2,yAl,e1];rw[yAJ];refine⟨?_,?_⟩
 .simp only[CH,yAn,yAZ];intro k hk;rw[QH,nP]at h3;simp only[yAn,yAZ,yBf,yBm]at h3;have cU:=h3 k Ak;simp only[yBf,yBm,yAn,yAZ];rcases cU with cU|cU
  .exact .inl cU
  .refine .inr λi hi=>?_
   rcases cU i Ae with h|h
   .exact .inl (.inl h)
   .exact .inl (.inr h)
 .intro k i id ok oi hk hi hm hl hlo hid;obtain⟨q1,q2⟩:=e2 k ok hk hm;refine⟨q1,q2 id ?_⟩;have hkl:=(yA.1 hk).1;have hil:=(yA.1 hi).1;have hmem:(oS (bW.of ρ) ops.toList).getD i none∈L:=by
   rw[<-hL,TK,nP];refine yCG.2 ⟨k,yAZ.2 hkl,?_⟩;have a1:eN cI ops.toList k=true:=by
    unfold eN;rw[hk];exact hm
   have a2:eN dA ops.toList i=true:=by
    unfold eN;rw[hi];exact hl
   rw[yAJ a1];exact yDF.2 ⟨i,yAZ.2 hil,by rw[a2,hlo];rfl⟩
  obtain⟨a,ha,haB⟩:=aLD hB _ hmem;rw[hft i id a hid ha];exact haB
def aCr(ops:Array Oper):Bool:=tJ ops.toList [] λms=>JX ops ms&&(List.range ops.toList.length).all λk=>!eN eO ops.toList k||(List.range ops.toList.length).all λi=>!eN dA ops.toList i||!loose ms i k
def DQ(P:Program)(call:cO)(fl:Nat)(ops:Array Oper)(i k:Nat)(l:List Oper)(fr:List PD)(σ:List U)(F:List PD)(S:List U):Prop:=∃tr,fY P call fl ops (cA ops.toList []) i k l fr σ=some (tr,F,S)
theorem DQ.nil{call:cO}{i k:Nat}{fr:Bw}{σ:Bv}:DQ P call fl ops i k [] fr σ fr σ:=⟨[],rfl⟩
theorem DQ.step{call:cO}{i k:Nat}{o:Oper}{rest:List Oper}{fr F aG:Bw}{σ σ' S:Bv}{p:PD}(hw:(Region.wanted o (aY ops fr)&&!bZ o.op)=true)(hp:eA P call fl (j9 ops.toList (cA ops.toList []) i) k fr σ o.op=some (p,σ'))(hf:aL fr o.dst p=aG)
  (h:DQ P call fl ops (i+1) k rest aG σ' F S):DQ P call fl ops i k (o::rest) fr σ F S:=by
 rw[yAr,yBm]at hw;obtain⟨tr,h⟩:=h;refine⟨⟨fr,σ,p,mT fr o.op⟩::tr,?_⟩;rw[<-hf]at h;simp only[fY,hw.1,hw.2,yAM,hp,h,yAx,yAN]
theorem DQ.alloc{call:cO}{i k:Nat}{o:Oper}{rest:List Oper}{fr F aG:Bw}{σ S:Bv}(hw:(Region.wanted o (aY ops fr)&&bZ o.op)=true)(hf:aL fr o.dst (.ptr k 0)=aG)
  (h:DQ P call fl ops (i+1) (k+1) rest aG σ F S):DQ P call fl ops i k (o::rest) fr σ F S:=by
 rw[yAr]at hw;obtain⟨tr,h⟩:=h;refine⟨⟨fr,σ,.ptr k 0,mT fr o.op⟩::tr,?_⟩;rw[<-hf]at h;have ha:cW o.op=false:=by
  have:=hw.2;cases ho:o.op<;>rw[ho]at this<;>first|rfl|(cases this;done)
 have hp:eA P call fl (j9 ops.toList (cA ops.toList []) i) k fr σ o.op=some (.ptr k 0,σ):=by
  unfold eA;rw[ha,yAI xl,yAJ hw.2]
 simp only[fY,hw.1,hw.2,yAM,hp,h]
theorem aB3{call:cO}{free:Bool}{k:Nat}{fr:Bw}{σ:Bv}{t:TypeId}{x:Operand}{a p:PD}(hx:bG fr x=some a)(h:j8 P σ t a=some p):eA P call fl free k fr σ (.load t x)=some (p,σ):=by
 simp only[eA,cW,bZ,cI,yCi,yDf,yAx,yAN,cK,cJ hx,h]
theorem aMA{call:cO}{free:Bool}{k:Nat}{fr:Bw}{σ σ':Bv}{t:TypeId}{x y:Operand}{a p:PD}(hx:bG fr x=some a)(hy:bG fr y=some p)(h:pC P fl σ t a p=some σ'):eA P call fl free k fr σ (.store t x y)=some (.aK [],σ'):=by
 simp only[eA,cW,bZ,cI,yCi,yDf,yAx,yAN,cK,cJ hx,cJ hy,h]
theorem Wp.aFQ{rd:Option Nat}{ms:List Nat}{Q:PO->Prop}{id f:Nat}{g:Bq}{fr:Bw}{σ:Bv}(hE:E f=some g)(hg:∀fl args σ,0<fl->g fl args σ=none)(mV:σ≠[])(ρ:List (Nat×Nat))(B:List Nat)(L:List (Option Nat))
  (hs:(tO ops&&JP ops.toList&&QH ops&&U0 f ops)=true) (hbx:∀id∈B,∃b,σ[id]?=some (U.box b)) (hρ:bW.UY fr ρ) (hL:TK ops.toList (bW.of ρ)=L) (hB:tX B L) (h:SQ P (DI E B) fl ops ops.toList fr σ (λfr' σ'=>Q ⟨.normal,fr',ms,σ'⟩)) :
  Wp P E rd (.region id ops true) fl fr ms σ Q:=by
 obtain⟨fr',σ',h1,h2⟩:=h.ex;rw[yAr]at hs;refine⟨_,.L0 (N:=0) (λn _=>aGH ρ B hs.1 hbx ?_ (bW.aCq ρ hρ) hL hB h1),h2⟩;have h2:=hs.1;have h4:=hs.2;simp only[yAr,tO]at h2;obtain⟨⟨a1,a2⟩,_⟩:=h2;rw[nP]at a1;have hr:=JY a1;cases hd:mA P (bV P E n) fl ops fr σ with
 |none=>rfl
 |some y=>
  exfalso
  unfold mA at hd;simp only[a1,yAM,UZ a2,yAl]at hd;rw[U0,nP]at h4;simp only[List.any_eq_true,yAZ,yAr,yBm,yAn]at h4;obtain⟨k,hk,⟨b1,b2⟩,b3⟩:=h4;have hkl:k<ops.toList.length:=Ak;have hno:fY P (bV P E n) fl ops (cA ops.toList []) 0 σ.length ops.toList fr σ=none:=by
   exact bp
  rw[hno]at hd;cases hd
end
end
section
def aBD:List Oper->Bool
 | ⟨some _,.buildSlice _ _ _,_,_,_,none⟩::⟨_,.convert _ _ _,_,_,_,none⟩::_=>false
 |_=>true
theorem aWz{P:Program}{call:cO}{fl:Nat}{ops:Cb}{l:List Oper}{fr:Bw}{σ:Bv}(h:aBD l=true):V1 P call fl ops l fr σ=none:=by
 unfold V1;split
 .simp[aBD]at h
 .rfl
section
variable{P:Program}{E:aE}{rd:Option Nat}{fl:Nat}{fr:Bw}{ms:List Nat}{σ:Bv}{Q:PO->Prop}{ops:Cb}
theorem aWA{n:Nat}{op:Op}{x:Value×Bv}(h:nU E fl fr σ op=some x):bI P (bV P E n) fl fr σ op=none:=by
 unfold nU at h;split at h
 .rfl
 .split at h
  .rename_i f args htg;split at h
   .rename_i g hg;split at h
    .rename_i hn;unfold bI;rw[htg];simp only[bV,oJ,hg,hn]
    .cases h
   .cases h
  .cases h
theorem aFB{n:Nat}{o:Oper}{rest:List Oper}{v:Value}{aG:Bw}{σ1 σ2:Bv}(hw:Region.wanted o (aY ops aG)=true)(hp:nU E fl aG σ1 o.op=some (v,σ2)):∀ {pre:List Oper} {fr:Bw} {σ:Bv},dM P (cN E) fl ops pre fr σ=some (aG,σ1) ->
  HS P E (bV P E n) fl ops (pre++o::rest) fr σ=some (v,aG,σ2)/\dM P (bV P E n) fl ops (pre++o::rest) fr σ=none
 | [],fr,σ,h=>by
   simp only[dM,yAb,yAc]at h;obtain⟨rfl,rfl⟩:=h;simp only[yAQ,HS,dM,hw,yAM,aWA hp,hp,and_self]
 |o'::pre,fr,σ,h=>by
  simp only[dM,yAR,HS]at h ⊢;split at h
  .rename_i hw';rw[yAJ hw',yAJ hw'];split at h
   .rename_i p σ' hst;rw[NM hst];exact aFB hw hp h
   .cases h
  .rename_i hw';rw[yAI hw',yAI hw'];exact aFB hw hp h
structure cT (E:aE) (fl:Nat) (ops:Array Oper) (ms:List Nat) (Q:PO->Prop) (o:Oper) (fr:List PD) (σ:List U):Prop where
 w:Region.wanted o (aY ops fr)=true
 ex:∃v σ',nU E fl fr σ o.op=some (v,σ')/\Q ⟨.panic v,fr,ms,σ'⟩
theorem WL.dP{id:Nat}(k:Nat){o:Oper}{rest:List Oper}(hp:aBD ops.toList=true)(hd:ops.toList.drop k=o::rest)(h:SQ P (cN E) fl ops (ops.toList.take k) fr σ (cT E fl ops ms Q o)):Wp P E rd (.region id ops false) fl fr ms σ Q:=by
 obtain⟨aG,σ1,h1,hw,v,σ2,h2,h3⟩:=h.ex;refine⟨_,.aOK (N:=0) (λn _=>?_),h3⟩;have hl:ops.toList=ops.toList.take k++o::rest:=by rw[<-hd,yCx]
 obtain⟨e1,e2⟩:=aFB (P:=P) (E:=E) (n:=n) (rest:=rest) hw h2 h1;rw[<-hl]at e1 e2;refine⟨?_,e1⟩;unfold VP;rw[e2];exact aWz hp
theorem WL.aZ{id:Nat}{y:Code}(k:Nat){o:Oper}{rest:List Oper}(hp:aBD ops.toList=true)(hd:ops.toList.drop k=o::rest)(h:SQ P (cN E) fl ops (ops.toList.take k) fr σ (cT E fl ops ms Q o)):Wp P E rd (.seq (.region id ops false) y) fl fr ms σ Q:=
 .seq (WL.dP k hp hd ⟨h.ex.choose,h.ex.choose_spec.choose,h.ex.choose_spec.choose_spec.1,h.ex.choose_spec.choose_spec.2.w,by
  obtain⟨v,σ',h1,h2⟩:=h.ex.choose_spec.choose_spec.2.ex;exact⟨v,σ',h1,.panic h2⟩⟩)
theorem cT.call{dst:Option Tmp}{ty:TypeId}{pos:String}{edges:Array Edge}{guard:Option (Nat×Bool)}{g:Operand}{args:Array Operand}{ts:Array TypeId}{f:FuncId}{cap ps:Bw}{v:Value}{σ':Bv}{gr:Bq}{q:Nat->List PD->List U->Option (Value×List U)}
  (hw:Wt (Region.wanted ⟨dst,.call { callee:=.value g,args:=args,argTypes:=ts },ty,pos,edges,guard⟩ (aY ops fr)=true)) (hg:bG fr g=some (.func f cap)) (hx:CM fr args.toList=some ps) (h1:E.ret f=some gr) (h2:E.aZ f=some q)
  (h3:gr fl (ps++cap) σ=none) (h4:q fl (ps++cap) σ=some (v,σ')) (k:Q ⟨.panic v,fr,ms,σ'⟩):cT E fl ops ms Q ⟨dst,.call { callee:=.value g,args:=args,argTypes:=ts },ty,pos,edges,guard⟩ fr σ:=
 ⟨hw.h,v,σ',by simp only[nU,dI,cJ hg,J7 hx,h1,h2,h3,h4],k⟩
theorem cT.op{dst:Option Tmp}{ty:TypeId}{pos:String}{edges:Array Edge}{guard:Option (Nat×Bool)}{x:Operand}{p:PD}{v:Value}
  (hw:Wt (Region.wanted ⟨dst,.panic x,ty,pos,edges,guard⟩ (aY ops fr)=true)) (hx:bG fr x=some p) (hv:p.fail=some v) (k:Q ⟨.panic v,fr,ms,σ⟩):cT E fl ops ms Q ⟨dst,.panic x,ty,pos,edges,guard⟩ fr σ:=
 ⟨hw.h,v,σ,by simp only[nU,cJ hx,hv],k⟩
end
section
variable{P:Program}{E:aE}{rd:Option Nat}{fl:Nat}{fr:Bw}{ms:List Nat}{σ:Bv}{Q:PO->Prop}{ops:Cb}
theorem aLw{n k:Nat}{free:Bool}{op:Op}{x:PD×Bv}(h:eA P (cN E) fl free k fr σ op=some x):eA P (bV P E n) fl free k fr σ op=some x:=by
 unfold eA at h ⊢;split at h
 .rename_i h1;rw[yAJ h1];exact h
 .rename_i h1;rw[yAI h1];split at h
  .rename_i h2;rw[yAJ h2];exact h
  .rename_i h2;rw[yAI h2];split at h
   .rename_i h3;rw[yAJ h3];split at h
    .rename_i p σ' hp;rw[NM hp];exact h
    .cases h
   .rename_i h3;rw[yAI h3];split at h
    .rename_i h4;rw[yAJ h4];exact NM h
    .rename_i h4;rw[yAI h4];exact h
theorem aLx{n bU:Nat}{op:Op}{x:Value×Bv}(h:nU E fl fr σ op=some x):bI P (bV P E n) bU fr σ op=bI P (cN E) bU fr σ op:=by
 unfold nU at h;split at h
 .rfl
 .split at h
  .rename_i f args htg;split at h
   .rename_i g hg;unfold bI;rw[htg];simp only[bV,oJ,cN,hg]
   .cases h
  .cases h
theorem aLy{n k:Nat}{free:Bool}{op:Op}{x:Value×Bv}(h:nU E fl fr σ op=some x):eA P (bV P E n) fl free k fr σ op=eA P (cN E) fl free k fr σ op:=by
 unfold eA;rw[aLx h,aLx h]
theorem aFC{n:Nat}{ms':List Nat}:∀(l:List Oper) (i k:Nat) (fr:List PD) (σ:List U) (y),fY P (bV P E n) fl ops ms' i k l fr σ=some y->ES P E fl ops (j9 ops.toList ms') i k l fr σ=none
 | [],_,_,_,_,_,_=>rfl
 |o::rest,i,k,fr,σ,y,h=>by
  simp only[fY,ES]at h ⊢;split at h
  .rename_i hw;rw[yAJ hw];split at h
   .rename_i p σ' hp;split at h
    .rename_i tr fr' tN hr;cases hd:eA P (cN E) fl (j9 ops.toList ms' i) k fr σ o.op with
     |some x=>
      have:=aLw (n:=n) hd;rw[hp]at this;simp only[yAb]at this;subst this;exact aFC rest _ _ _ _ _ hr
     |none=>
      exact jt
    .cases h
   .cases h
  .rename_i hw;rw[yAI hw];split at h
   .rename_i tr fr' tN hr;exact aFC rest _ _ _ _ _ hr
   .cases h
theorem aFD{n:Nat}:∀(l:List Oper) (i k:Nat) (fr:List PD) (σ:List U) (y),oO P (bV P E n) fl ops i k l fr σ=some y->ES P E fl ops (λ_=>true) i k l fr σ=none
 | [],_,_,_,_,_,_=>rfl
 |o::rest,i,k,fr,σ,y,h=>by
  simp only[oO,ES]at h ⊢;split at h
  .rename_i hw;rw[yAJ hw];split at h
   .rename_i p σ' hp;split at h
    .rename_i tr fr' tN hr;cases hd:eA P (cN E) fl true k fr σ o.op with
     |some x=>
      have:=aLw (n:=n) hd;rw[hp]at this;simp only[yAb]at this;subst this;exact aFD rest _ _ _ _ _ hr
     |none=>
      exact jt
    .cases h
   .cases h
  .rename_i hw;rw[yAI hw];split at h
   .rename_i tr fr' tN hr;exact aFD rest _ _ _ _ _ hr
   .cases h
theorem aWB{n:Nat}{y:Value×Bv}(h:N3 P E fl ops fr σ=some y):pG P (bV P E n) fl ops fr σ=none:=by
 unfold N3 at h;split at h
 .rename_i hs hho;split at h
  .rename_i v τ v2 kH h1 h2;unfold pG;cases hd:mA P (bV P E n) fl ops fr σ with
   |some z=>
    exfalso
    unfold mA at hd;simp only at hd;split at hd
    .rw[hho]at hd;simp only at hd;split at hd
     .rename_i tr fr' σ' ho;rw[aFC _ _ _ _ _ _ ho]at h1;cases h1
     .cases hd
    .cases hd
   |none=>
    simp only;split
    .rw[hho];simp only;split
     .rename_i tr fr' σ' ho;rw[aFD _ _ _ _ _ _ ho]at h2;cases h2
     .rfl
    .rfl
  .cases h
 .cases h
theorem Ev.aWC{id:Nat}{v:Value}{τ:Bv}(h:N3 P E fl ops fr σ=some (v,τ)):Ev P E rd (.region id ops true) fl fr ms σ ⟨.panic v,fr,ms,τ⟩:=
 .step (N:=0) λn _=>by
  have:=aWB (n:=n) h;unfold bV at this;simp only[gE,this,h]
theorem aWD:bV P E 0=cN E:=by
 funext fl tg args σ
 cases tg with
 |inl f=>
  simp only[bV,oJ,cN];cases E.ret f with
  |some g=>rfl
  |none=>
   simp only[aAg,gE];split
   .split<;>rfl
   .rfl
 |inr id=>
  simp only[bV,oJ,cN,aAj,gE];split
  .split
   .split<;>rfl
   .rfl
  .rfl
structure FQ (P:Program) (E:aE) (fl:Nat) (ops:Array Oper) (o:Oper) (v:Value) (τ:List U) (fr:List PD) (σ:List U):Prop where
 w:Region.wanted o (aY ops fr)=true
 h1:bI P (cN E) fl fr σ o.op=none
 h2:bI P (cN E) (max fl σ.length) fr σ o.op=none
 h3:nU E fl fr σ o.op=some (v,τ)
def TH(l:List Oper):Bool:=l.all λo=>(cW o.op||dA o.op||bZ o.op||iW o.op||cX o.op)&&!bZ o.op&&(match o.op with
 |.box ..=>false
 |.call { callee:=.builtin .append,.. }=>false
 |.call { callee:=.builtin .copy,.. }=>false
 |_=>true)
def TI(o:Oper):Bool:=match o.op with
 |.call { callee:=.value _,.. }=>true
 |_=>false
theorem aFE(hU:aF E){b:Nat->Bool}{o:Oper}{rest:List Oper}{v:Value}{τ:Bv}(hc:TI o=true):∀(pre:List Oper) (i k:Nat) (fr:List PD) (σ:List U) (aG:List PD) (σ1:List U),TH pre=true->dM P (eU E) fl ops pre fr σ=some (aG,σ1)->FQ P E fl ops o v τ aG σ1 ->
  ES P E fl ops b i k (pre++o::rest) fr σ=some (v,τ)
 | [],i,k,fr,σ,aG,σ1,_,h,hp=>by
   simp only[dM,yAb,yAc]at h;obtain⟨rfl,rfl⟩:=h;simp only[yAQ,ES,hp.w,yAM];have hsh:(cW o.op||dA o.op||bZ o.op||iW o.op||cX o.op)=true/\bZ o.op=false:=by
    obtain⟨dst,op,ty,pos,after,guard⟩:=o;cases op<;>simp[TI]at hc
    rename_i c;obtain⟨callee,args,ts⟩:=c;cases callee<;>simp at hc
    exact⟨rfl,rfl⟩
   rw[QU hsh.1 hsh.2,hp.h1,hp.h2];cases(!cI o.op||b i)<;>exact hp.h3
 |o'::pre,i,k,fr,σ,aG,σ1,hpre,h,hp=>by
  simp only[TH,yBG,yAr,yBm]at hpre;obtain⟨⟨⟨a1,a2⟩,a3⟩,a4⟩:=hpre;simp only[dM,yAR,ES]at h ⊢;split at h
  .rename_i hw;rw[yAJ hw];split at h
   .rename_i p σ' hst;have e:eA P (cN E) fl (b i) k fr σ o'.op=some (p,σ'):=by
     rw[QU a1 a2];cases hm:cI o'.op with
     |false=>exact aHa hU hst
     |true=>
      have e1:=NL hU (bU:=fl) a3 hm hst;have e2:=NL hU (bU:=max fl σ.length) a3 hm hst;have e3:σ'=σ:=e1.2;subst e3;cases b i with
      |true=>exact e1.1
      |false=>
       simp only[yBw,yCM,e2.1];simp
    rw[e];exact aFE hU hc pre _ _ _ _ _ _ a4 h hp
   .cases h
  .rename_i hw;rw[yAI hw];exact aFE hU hc pre _ _ _ _ _ _ a4 h hp
theorem WL.aLz{id:Nat}(k:Nat){hs:Bv}{o:Oper}{rest:List Oper}{v:Value}{τ:Bv}(f:FuncId)(x:PD)(hU:aF E)(hho:kN P ops.toList=some hs)(hd:ops.toList.drop k=o::rest)(hc:TI o=true)(hpre:TH (ops.toList.take k)=true)(hlow:(ops.toList.all λo=>match o.dst with|some d=>decide (7<=d)|none=>true)=true)
  (h:SQ P (eU E) fl ops (ops.toList.take k) fr (σ++hs) (FQ P E fl ops o v τ)) (hx:x.marked=true) (hf:∃fr' σ',(∀n,pG P (bV P (E.HU fl f x v τ) n) fl ops fr σ=some (fr',σ'))/\fr'.any PD.marked=true) (hQ:Q ⟨.panic v,fr,ms,τ⟩) :
  Wp P E rd (.region id ops true) fl fr ms σ Q:=by
 refine⟨_,.aWC ?_,hQ⟩;obtain⟨aG,σ1,h1,h2⟩:=h.ex;have hl:ops.toList=ops.toList.take k++o::rest:=by rw[<-hd,yCx]
 have hw:=λb=>aFE hU (b:=b) hc (ops.toList.take k) 0 σ.length fr (σ++hs) aG σ1 hpre h1 h2 (rest:=rest)
 rw[<-hl]at hw;unfold N3;rw[hho];simp only[hw];obtain⟨fr',σ',h3,h4⟩:=hf;have h5:=h3 0;rw[aWD]at h5;rw[yAJ ⟨rfl,rfl,hlow,f,x,fr',σ',h5,h4,hx⟩]
theorem WL.aWE{id:Nat}{y:Code}(k:Nat){hs:Bv}{o:Oper}{rest:List Oper}{v:Value}{τ:Bv}(f:FuncId)(x:PD)(hU:aF E)(hho:kN P ops.toList=some hs)(hd:ops.toList.drop k=o::rest)(hc:TI o=true)(hpre:TH (ops.toList.take k)=true)(hlow:(ops.toList.all λo=>match o.dst with|some d=>decide (7<=d)|none=>true)=true)
  (h:SQ P (eU E) fl ops (ops.toList.take k) fr (σ++hs) (FQ P E fl ops o v τ)) (hx:x.marked=true) (hf:∃fr' σ',(∀n,pG P (bV P (E.HU fl f x v τ) n) fl ops fr σ=some (fr',σ'))/\fr'.any PD.marked=true) (hQ:Q ⟨.panic v,fr,ms,τ⟩) :
  Wp P E rd (.seq (.region id ops true) y) fl fr ms σ Q:=
 .seq (WL.aLz k f x hU hho hd hc hpre hlow h hx hf (.panic hQ))
theorem FQ.call{dst:Option Tmp}{ty:TypeId}{pos:String}{edges:Array Edge}{guard:Option (Nat×Bool)}{g:Operand}{args:Array Operand}{ts:Array TypeId}{f:FuncId}{cap ps:Bw}{v:Value}{σ':Bv}{gr:Bq}{q:Nat->List PD->List U->Option (Value×List U)}
  (hw:Wt (Region.wanted ⟨dst,.call { callee:=.value g,args:=args,argTypes:=ts },ty,pos,edges,guard⟩ (aY ops fr)=true)) (hg:bG fr g=some (.func f cap)) (hx:CM fr args.toList=some ps) (h1:E.ret f=some gr) (h2:E.aZ f=some q)
  (h3:gr fl (ps++cap) σ=none) (h5:gr (max fl σ.length) (ps++cap) σ=none) (h4:q fl (ps++cap) σ=some (v,σ')):FQ P E fl ops ⟨dst,.call { callee:=.value g,args:=args,argTypes:=ts },ty,pos,edges,guard⟩ v σ' fr σ:=
 ⟨hw.h,by simp only[bI,dI,cJ hg,J7 hx,cN,h1,h3],by simp only[bI,dI,cJ hg,J7 hx,cN,h1,h5],by simp only[nU,dI,cJ hg,J7 hx,h1,h2,h3,h4]⟩
end
theorem aM.panic{I:Nat->List PD->List U->Prop}{m:Nat}{fr:Bw}{ms ms':List Nat}{σ:Bv}{Q:PO->Prop}{v:Value}(h:Q ⟨.panic v,fr,ms',σ⟩):aM I m ms Q ⟨.panic v,fr,ms',σ⟩:=⟨λe=>xx,λ_=>h⟩
theorem aB{σ:Bv}{i:Nat}{x:U}(h:σ[i]?=some x):∃hl:i<σ.length,σ[i]=x/\(∀τ,(σ++τ)[i]?=some x)/\(∀y,(σ.set i y)[i]?=some y)/\(∀y τ,(σ++τ).set i y=σ.set i y++τ)/\∀y τ,(σ.set i y++τ)[i]?=some y:=by
 obtain⟨hl,e⟩:=yA.1 h;exact⟨hl,e,λτ=>by rw[yAg hl];exact h,λy=>yAj hl,λy τ=>yCK _ _ hl,λy τ=>by rw[yAg (by rw[yAD];exact hl)];exact yAj hl⟩
theorem bH(σ:List U):(∀x,(σ++[x])[σ.length]?=some x)/\(∀x y,(σ++[x]).set σ.length y=σ++[y])/\∀i x y,(σ.set i y++[x])[σ.length]?=some x:=
 ⟨λx=>wz,λx y=>wz,λi x y=>by
  have h:(σ.set i y).length=σ.length:=wz;rw[<-h];simp⟩
section
variable{P:Program}{call:cO}{fl:Nat}{fr aG:Bw}{σ:Bv}{ops:Cb}{K:List PD->List U->Prop}{l:List Oper}{dst:Option Tmp}{ty:TypeId}{pos:String}{edges:Array Edge}{guard:Option (Nat×Bool)}{t:TypeId}{x:Operand}{p:PD}
theorem SL.WI{fs:Array Field}(hu:P.underlying t=some (.struct fs))(hw:Wt (Region.wanted ⟨dst,.makeInterface t x,ty,pos,edges,guard⟩ (aY ops fr)=true))(hx:bG fr x=some p)(hf:Fr (aL fr dst (.iface t p)=aG))(k:SQ P call fl ops l aG σ K) :
  SQ P call fl ops (⟨dst,.makeInterface t x,ty,pos,edges,guard⟩::l) fr σ K:=by
 have:=hf.h;subst this;exact SQ.step hw.h (by simp only[bI,dI,pop,dD,hu,cJ hx]) k
theorem SL.WJ{fs:Array Field}{u:TypeId}(hu:P.underlying t=some (.struct fs))(hw:Wt (Region.wanted ⟨dst,.typeAssert x u t true,ty,pos,edges,guard⟩ (aY ops fr)=true))(hx:bG fr x=some (.iface t p))(hf:Fr (aL fr dst (.aK [p,.bool true])=aG))(k:SQ P call fl ops l aG σ K) :
  SQ P call fl ops (⟨dst,.typeAssert x u t true,ty,pos,edges,guard⟩::l) fr σ K:=by
 have:=hf.h;subst this;exact SQ.step hw.h (by simp only[bI,dI,pop,dD,hu,cJ hx,yAM]) k
theorem SL.WK{ms:Array (String×TypeId)}{u t2:TypeId}{q:PD}(hu:P.underlying t=some (.interface ms))(hx:bG fr x=some (.iface u q))(hw:Wt (Region.wanted ⟨dst,.binOp .neq t x (.const .nilIface) t2,ty,pos,edges,guard⟩ (aY ops fr)=true))(hf:Fr (aL fr dst (.bool true)=aG))(k:SQ P call fl ops l aG σ K) :
  SQ P call fl ops (⟨dst,.binOp .neq t x (.const .nilIface) t2,ty,pos,edges,guard⟩::l) fr σ K:=by
 have:=hf.h;subst this;refine SQ.step hw.h ?_ k;have e:dZ P .neq t (.iface u q) (.bL .nilIface)=none:=by
  unfold dZ rF lC;simp only[hu]
 exact nj
theorem SL.WM{ms:Array (String×TypeId)}{t2:TypeId}(hu:P.underlying t=some (.interface ms))(hx:bG fr x=some (.bL .nilIface))(hw:Wt (Region.wanted ⟨dst,.binOp .neq t x (.const .nilIface) t2,ty,pos,edges,guard⟩ (aY ops fr)=true))(hf:Fr (aL fr dst (.bool false)=aG))(k:SQ P call fl ops l aG σ K) :
  SQ P call fl ops (⟨dst,.binOp .neq t x (.const .nilIface) t2,ty,pos,edges,guard⟩::l) fr σ K:=by
 have:=hf.h;subst this;refine SQ.step hw.h ?_ k;have e:dZ P .neq t (.bL .nilIface) (.bL .nilIface)=none:=by
  unfold dZ rF lC;simp only[hu]
 exact nj
end
section
variable{P:Program}{E:aE}
def PN(P:Program)(E:aE)(fl:Nat)(f:FuncId)(args:List PD)(σ:List U)(v:Value)(σ':List U):Prop:=
 ∃fn c fr',P.funcs[f]?=some fn/\fn.body=some c/\Ev P E none c fl (args++List.replicate (fn.ntmps-args.length) (.aK [])) [] σ ⟨.panic v,fr',[],σ'⟩
theorem PN.calls(hE:aH P E)(hP:P.follows .mixedOrders=true){F:Fence}{fl:Nat}{f:FuncId}{args:Bw}{c:Cx}{vs:Bz}{v:Value}{σ':Bv}(h:PN P E fl f args c.σ v σ')(hF:Open F P)(hs:Sr c)(hX:Xw fl c)(hv:aJ c vs args) :
  (∃fn,P.funcs[f]?=some fn/\fn.body.isSome=true)/\∀m,CallsIn F m P f vs.toArray c.w (aC5 fl c v σ'):=by
 obtain⟨fn,bd,fr',hfn,hbd,N,hN⟩:=h;refine⟨⟨fn,hfn,by simp[hbd]⟩,λm=>?_⟩;have tL:Open { F with round:=none } P:=⟨hF.fn,hF.depth,hF.name,hF.alive⟩;have key:CallsIn { F with round:=none } m P f vs.toArray c.w (aC5 fl c v σ'):=by
  refine yDC hfn hbd (hF.fn f) (mG.wpIn ?_);have hfr:aJ c (vs.toArray++Array.replicate (fn.ntmps-vs.toArray.size) undef).toList (args++List.replicate (fn.ntmps-args.length) (.aK [])):=by
   exact ai
  refine VU hE hP N (a:={ tmps:=_,defers:=[] }) (B:=[]) tL (hN N (yAk _)) hs hX ⟨hfr,hs.gU⟩ rfl (rfl:CQ { F with round:=none } c none) m _ λc1 a1 e1 hs1 fS eK iO=>?_
  have hd:a1.defers=[]:=by
   revert iO
   exact iz
  show LeavesInM _ m P fn a1.tmps _ a1.defers (.panicking [{ v,recovered:=false }]) c1.w
  rw[hd];exact⟨rfl,c1,rfl,e1,hs1,fS⟩
 exact⟨key.1,key.2⟩
def lU(P:Program)(E:aE)(f:FuncId)(Q:List PD->List U->Value->List U->Prop):Nat->List PD->List U->Option (Value×List U):=by
 classical
 exact λfl args σ=>if h:∃r:Value×List U,PN P E fl f args σ r.1 r.2/\Q args σ r.1 r.2 then some h.choose else none
theorem aWF{f:FuncId}{Q:List PD->List U->Value->List U->Prop}{fl:Nat}{args:Bw}{σ σ':Bv}{v:Value}(h:lU P E f Q fl args σ=some (v,σ')):PN P E fl f args σ v σ'/\Q args σ v σ':=by
 unfold lU at h;exact lz
theorem aWG{f:FuncId}{Q:List PD->List U->Value->List U->Prop}{fl:Nat}{args:Bw}{σ:Bv}(h:∃v σ',PN P E fl f args σ v σ'/\Q args σ v σ'):∃v σ',lU P E f Q fl args σ=some (v,σ')/\Q args σ v σ':=by
 obtain⟨v,σ',h1,h2⟩:=h;have hx:∃r:Value×List U,PN P E fl f args σ r.1 r.2/\Q args σ r.1 r.2:=⟨(v,σ'),h1,h2⟩;refine⟨hx.choose.1,hx.choose.2,?_,hx.choose_spec.2⟩;unfold lU;rw[dif_pos hx]
theorem aH.Q9{E0:aE}(hE:aH P E)(h0:aH P E0)(hP:P.follows .mixedOrders=true){f:FuncId}{Q:List PD->List U->Value->List U->Prop}:aH P (E.Q9 f (lU P E0 f Q)):=by
 refine⟨hE.ret,fun {F fl f' g args c vs v σ'} hF hg hgo hs hX hv=>?_⟩;simp only[aE.Q9]at hg;split at hg
 .rename_i e;subst e;simp only[yAb]at hg;subst hg;exact(aWF hgo).1.calls h0 hP hF hs hX hv
 .exact hE.aZ hF hg hgo hs hX hv
structure lJ (P:Program) (E:aE) (f:FuncId) (args:List PD) (σ:List U) (Rr:PD->List U->Prop) (Rp:Value->List U->Prop):Prop where
 ex:(∃p σ',lM P E 0 (.inl f) args σ p σ'/\Rr p σ')\/(∃v σ',PN P E 0 f args σ v σ'/\Rp v σ')
theorem lJ.lL{f:FuncId}{fn:Func}{c:Code}{args fr:Bw}{σ:Bv}{Rr:PD->List U->Prop}{Rp:Value->List U->Prop}(hE:E f=none)(hf:P.funcs[f]?=some fn)(hb:fn.body=some c)(hfr:args++List.replicate (fn.ntmps-args.length) (.aK [])=fr)
  (h:Wp P E none c 0 fr [] σ (λr=>(∃v,r.x=.panic v/\r.ms=[]/\Rp v r.σ)\/(∃p σ',vL P 0 fn r=some (p,σ')/\Rr p σ'))):lJ P E f args σ Rr Rp:=by
 subst hfr;obtain⟨⟨x,aG,ms1,σ1⟩,h1,h2⟩:=h.ex;rcases h2 with⟨v,rfl,rfl,h3⟩ | ⟨p,σ',h3,h4⟩
 .exact⟨.inr ⟨v,σ1,⟨fn,c,aG,hf,hb,h1⟩,h3⟩⟩
 .exact⟨.inl ⟨p,σ',.body hE hf hb h1 h3,h4⟩⟩
def iQ(P:Program)(E:aE)(f:FuncId)(Q:List PD->List U->PD->List U->Prop):Nat->List PD->List U->Option (PD×List U):=λfl args σ=>
 match mN P E f (λargs σ p σ'=>Q args σ p.strip σ') fl args σ with
 |some (p,σ')=>some (p.strip,σ')
 |none=>none
theorem aLA{f:FuncId}{Q:List PD->List U->PD->List U->Prop}{args:Bw}{σ σ':Bv}{p:PD}(h:iQ P E f Q 0 args σ=some (p,σ')):Q args σ p σ':=by
 unfold iQ at h;split at h
 .rename_i q τ hq;simp only[yAb,yAc]at h;obtain⟨rfl,rfl⟩:=h;unfold mN at hq;rw[yAJ rfl]at hq;exact(WN hq).2
 .cases h
theorem aWH{f:FuncId}{Q:List PD->List U->PD->List U->Prop}{args:Bw}{σ:Bv}(h:∃p σ',lM P E 0 (.inl f) args σ p σ'/\Q args σ p.strip σ'):∃p σ',iQ P E f Q 0 args σ=some (p,σ')/\Q args σ p σ':=by
 obtain⟨p,σ',h1,h2⟩:=h;obtain⟨q,τ,h3,h4⟩:=aE4 (P:=P) (E:=E) (f:=f) (Q:=λargs σ p σ'=>Q args σ p.strip σ') ⟨p,σ',h1,h2⟩;exact⟨q.strip,τ,by unfold iQ;rw[h3],h4⟩
theorem aH.aWy(hE:aH P E)(hP:P.follows .mixedOrders=true){f:FuncId}{Q:List PD->List U->PD->List U->Prop}:aH P (E.add f (iQ P E f Q)):=by
 refine⟨fun {F fl f' g' args c vs p σ'} hF hg hgo hs hX hv=>?_,hE.aZ⟩;rw[aE.tI]at hg;split at hg
 .rename_i e;subst e;simp only[yAb]at hg;subst hg;unfold iQ at hgo;split at hgo
  .rename_i q τ hq;simp only[yAb,yAc]at hgo;obtain⟨rfl,rfl⟩:=hgo;obtain⟨h1,h2⟩:=(hE.aEk hP (f:=f') (Q:=λargs σ p σ'=>Q args σ p.strip σ')).ret hF aE.add_same hq hs hX hv;exact dw
  .cases hgo
 .exact fj
theorem aF.iQ{E0:aE}(hU:aF E){f:FuncId}{Q:List PD->List U->PD->List U->Prop}(hQ:∀args p,¬Q args [] p []):aF (E.add f (iQ P E0 f Q)):=
 hU.other λargs p h=>hQ args p (aLA h)
theorem lJ.both{f:FuncId}{args:Bw}{σ:Bv}{Qr:List PD->List U->PD->List U->Prop}{Qp:List PD->List U->Value->List U->Prop}(h:lJ P E f args σ (λp σ'=>Qr args σ p.strip σ') (Qp args σ))(hx:∀p σ' v τ,Qr args σ p σ'->Qp args σ v τ->False) :
  (∃p σ',iQ P E f Qr 0 args σ=some (p,σ')/\Qr args σ p σ')\/(iQ P E f Qr 0 args σ=none/\∃v σ',lU P E f Qp 0 args σ=some (v,σ')/\Qp args σ v σ'):=by
 rcases h.ex with h|h
 .exact .inl (aWH h)
 .obtain⟨v,σ',h3,h4⟩:=aWG h;refine .inr ⟨?_,v,σ',h3,h4⟩;cases hq:iQ P E f Qr 0 args σ with
  |none=>rfl
  |some x=>exact(hx _ _ _ _ (aLA (p:=x.1) (σ':=x.2) hq) h4).elim
end
end
section
open Go.RowKit
section
variable{P:Program}{E:aE}
def QN(P:Program)(E:aE)(f:FuncId)(x:PD)(args:List PD)(σ σ':List U):Prop:=
 ∃fn id d0 d1 ts ty0 N7 aCs pos1 ed0 N8 y fr r,P.funcs[f]?=some fn /\
  fn.body=some (.seq (.region id #[⟨some d0,.call { callee:=.builtin .recover,args:=#[],argTypes:=ts },ty0,aCs,ed0,none⟩,⟨some d1,.assign (.tmp d0),N7,pos1,N8,none⟩] false) y)/\fn.results=#[] /\
  aL (aL (args++List.replicate (fn.ntmps-args.length) (.aK [])) (some d0) x) (some d1) x=fr/\d0<(args++List.replicate (fn.ntmps-args.length) (PD.aK [])).length/\Ev P E none y 0 fr [] σ r/\(r.x=.normal\/r.x=.ret)/\r.ms=[]/\r.σ=σ'
theorem QN.calls(hE:aH P E)(hP:P.follows .mixedOrders=true){F:Fence}(hro:F.round=none){n:Nat}{f:FuncId}{x:PD}{xv:Value}{args:Bw}{vs:Bz}{c:Cx}{σ':Bv}{u u':FrameMode}(h:QN P E f x args c.σ σ')(hF:Open F P)(hs:Sr c)(hX:Xw 0 c)(hv:aJ c vs args)(hx:VR c xv x)
  (hu:∀(c0:Frame) (cs:List Frame),c0.mode=u->recoverD (c0::cs)=some (xv,{ c0 with mode:=u' }::cs)\/(recoverD (c0::cs)=none/\xv=.nilIface/\u'=u)) :
  CallsDIn F n P f vs.toArray u c.w (λe u1 w'=>(∃v,e=.returned v)/\u1=u'/\∃c':Cx,c'.w=w'/\c'.σ=σ'/\Sr c'/\Nx 0 c c'):=by
 obtain⟨fn,id,d0,d1,ts,ty0,N7,aCs,pos1,ed0,N8,y,fr,r,hfn,hbd,hres,hfr,CS,⟨N,hN⟩,hrx,hms,mV⟩:=h;refine callsDIn_of_wpSIn hfn hbd (hF.fn f) λc0 cs hc0=>?_
 refine wpSIn_seq (wpSIn_region ?_);have key:∀cs',({ c0 with mode:=u' }:Frame)::cs=cs'->wpOpsSIn F n P #[⟨some d0,.call { callee:=.builtin .recover,args:=#[],argTypes:=ts },ty0,aCs,ed0,none⟩,⟨some d1,.assign (.tmp d0),N7,pos1,N8,none⟩] (Exit.thenS (y.wpSIn F n P (bodyPostS P fn c0 cs (λe u1 w'=>(∃v,e=.returned v)/\u1=u'/\∃c':Cx,c'.w=w'/\c'.σ=σ'/\Sr c'/\Nx 0 c c'))) (bodyPostS P fn c0 cs (λe u1 w'=>(∃v,e=.returned v)/\u1=u'/\∃c':Cx,c'.w=w'/\c'.σ=σ'/\Sr c'/\Nx 0 c c'))) [1]
   (({ tmps:=vs.toArray++Array.replicate (fn.ntmps-vs.toArray.size) undef,defers:=[] }:Act).put (some d0) xv) cs' c.w:=by
  rintro cs' rfl
  have aNE:aJ c (vs.toArray++Array.replicate (fn.ntmps-vs.toArray.size) undef).toList (args++List.replicate (fn.ntmps-args.length) (.aK [])):=by
   exact ai
  have eK:FR c (({ tmps:=vs.toArray++Array.replicate (fn.ntmps-vs.toArray.size) undef,defers:=[] }:Act).put (some d0) xv) (aL (args++List.replicate (fn.ntmps-args.length) (.aK [])) (some d0) x):=FR.put ⟨aNE,hs.gU⟩ hx (some d0);have hev:(({ tmps:=vs.toArray++Array.replicate (fn.ntmps-vs.toArray.size) undef,defers:=[] }:Act).put (some d0) xv).eval (.tmp d0)=xv:=by
   have hl:d0<(vs.toArray++Array.replicate (fn.ntmps-vs.toArray.size) undef).size:=by
    have:=aNE.1;rw[yCb]at this;rw[this];exact CS
   simp only[Act.eval,Act.put];rw[yCt,Array.getElem?_setIfInBounds_self_of_lt hl];rfl
  have pD:=eK.put hx (some d1);rw[hfr]at pD;simp only[wpOpsSIn,yDO,yBL,yBv];refine⟨λg _=>hF.fn g,?_⟩;rw[yAJ (show Region.wanted _ _=true from rfl)];have KC:(execOp (({ tmps:=vs.toArray++Array.replicate (fn.ntmps-vs.toArray.size) undef,defers:=[] }:Act).put (some d0) xv).eval ⟨some d1,.assign (.tmp d0),N7,pos1,N8,none⟩).run P c.w=.ok (.value xv) c.w:=by
   simp only[execOp,hev];rfl
  rw[KC];simp only[Exit.thenS];refine wpSIn_of_wpIn hro (mG.wpIn (VU hE hP N (B:=[]) hF (hN N (yAk _)) hs hX pD rfl (hro:CQ F c none) n _ λc1 a1 e1 hs1 fS aZw iO=>?_));have hd:a1.defers=[]:=by
   rw[hms]at iO
   revert iO
   exact iz
  have aZx:=aZw.all (by rcases hrx with e|e<;>rw[e]<;>intro v h<;>cases h);obtain⟨rv,hrs,_⟩:=aC6 (P:=P) hs1 aZx (fn:=fn) (qs:=[]) (by rw[hres];rfl);rcases hrx with e|e<;>rw[e]<;>exact⟨hd,u',rfl,_,hrs,⟨_,rfl⟩,rfl,c1,rfl,e1.trans mV,hs1,fS⟩
 have h0:∀a:Act,(execOp a.eval ⟨some d0,.call { callee:=.builtin .recover,args:=#[],argTypes:=ts },ty0,aCs,ed0,none⟩).run P c.w=.ok .recover c.w:=λa=>by
  simp only[execOp,resolve,invoke,yAV,yAY,yAX];rfl
 show wpOpsSIn F n P _ _ [0,1] _ (c0::cs) c.w
 rw[wpOpsSIn];simp only[yDO,yBv];refine⟨λg _=>hF.fn g,?_⟩;rw[yAJ (show Region.wanted _ _=true from rfl),h0];simp only;rcases hu c0 cs hc0 with e | ⟨e,rfl,rfl⟩
 .rw[e];exact key _ rfl
 .rw[e];exact key _ (by rw[<-hc0])
theorem VR.aZy{c:Cx}{p:PD}{v:Value}(h:p.scalar=some v):VR c v p:=by
 cases p<;>simp[PD.scalar]at h<;>subst h
 .exact .bool _
 .exact .int _ _
 .exact .str _
theorem aJ.aNF{c:Cx}:∀ {ps:Bw} {vs:Bz},scalars ps=some vs->aJ c vs ps/\∀v∈vs,v.oneCell'=true
 | [],vs,h=>by
   simp only[scalars,yAb]at h;subst h;exact⟨⟨rfl,λi v d h=>yp⟩,wz⟩
 |p::ps,vs,h=>by
  simp only[scalars]at h;split at h
  .rename_i v us h1 h2;simp only[yAb]at h;subst h;obtain⟨k1,k2⟩:=aJ.aNF (c:=c) h2;refine⟨⟨by simp[k1.1],λi u d hu hd=>?_⟩,?_⟩
   .cases i with
    |zero=>simp at hu hd;subst hu hd;exact VR.aZy h1
    |succ i=>exact k1.2 i u d yx zc
   .intro u hu;rcases yAS.1 hu with rfl|hu
    .cases p<;>simp[PD.scalar]at h1<;>subst h1<;>rfl
    .exact k2 u hu
  .cases h
theorem VR.aZz{c:Cx}{p:PD}{v:Value}(h:p.fail=some v):VR c v p:=by
 unfold PD.fail at h;split at h
 .rename_i t cs;split at h
  .rename_i vs hvs;simp only[yAb]at h;subst h;obtain⟨k1,k2⟩:=aJ.aNF (c:=c) hvs;exact .iface t _ _ (.agg vs cs k1.1 k2 k1.2)
  .cases h
 .cases h
def ZV(l:List ResultVar):Bool:=l.all λr=>match r with
 |.tmp t=>decide (t<7)
 |.cell a _=>decide (a<7)
theorem aNG{fr vP:Bw}{σ:Bv}(h:∀i,i<7->vP[i]?=fr[i]?):∀ {l:List ResultVar},ZV l=true->oI P vP σ l=oI P fr σ l
 | [],_=>rfl
 |r::l,hl=>by
  simp only[ZV,yBG,yAr]at hl;have e:CO P vP σ r=CO P fr σ r:=by
   cases r with
   |tmp t=>
    have:=yDg hl.1;simp only[CO,yAA,h t this]
   |cell a t=>
    have:=yDg hl.1;simp only[CO,yAA,h a this]
  simp only[oI,e,aNG h (l:=l) hl.2]
def K8(P:Program)(E:aE)(f:FuncId)(args:List PD)(σ:List U)(p:PD)(σ3:List U):Prop:=
 ∃fn x id fc ags ts ty pos ed y aG σ1 ps r z qs,P.funcs[f]?=some fn /\
  fn.body=some (.seq x (.seq (.region id #[⟨none,.defer { callee:=.value (.func fc),args:=ags,argTypes:=ts },ty,pos,ed,none⟩] false) y)) /\
  Ev P E none x 0 (args++List.replicate (fn.ntmps-args.length) (.aK [])) [] σ ⟨.normal,aG,[],σ1⟩/\iX aG ags.toList=some ps/\Ev P E none y 0 aG [] σ1 r/\r.ms=[] /\
  (((r.x=.normal\/r.x=.ret)/\z=.bL .nilIface)\/∃v,r.x=.panic v/\z.fail=some v)/\QN P E fc z ps r.σ σ3/\ZV fn.results.toList=true/\oI P r.fr σ3 fn.results.toList=some qs/\p=LV qs
theorem K8.calls(hE:aH P E)(hP:P.follows .mixedOrders=true){F:Fence}{f:FuncId}{args:Bw}{c:Cx}{vs:Bz}{p:PD}{σ3:Bv}(h:K8 P E f args c.σ p σ3)(hF:Open F P)(hs:Sr c)(hX:Xw 0 c)(hv:aJ c vs args) :
  (∃fn,P.funcs[f]?=some fn/\fn.body.isSome=true)/\∀m,CallsIn F m P f vs.toArray c.w (JU 0 c p σ3):=by
 obtain⟨fn,x,id,fc,ags,ts,ty,pos,ed,y,aG,σ1,ps,r,z,qs,hfn,hbd,⟨N1,hx⟩,hps,⟨N2,hy⟩,hms,hz,hc,hlow,hqs,rfl⟩:=h;refine⟨⟨fn,hfn,by simp[hbd]⟩,λm=>?_⟩;have tL:Open { F with round:=none } P:=⟨hF.fn,hF.depth,hF.name,hF.alive⟩;have key:CallsIn { F with round:=none } m P f vs.toArray c.w (JU 0 c (LV qs) σ3):=by
  refine yDC hfn hbd (hF.fn f) (wpIn_seq ?_);have hfr:aJ c (vs.toArray++Array.replicate (fn.ntmps-vs.toArray.size) undef).toList (args++List.replicate (fn.ntmps-args.length) (.aK [])):=by
   exact ai
  refine mG.wpIn (VU hE hP N1 (a:={ tmps:=_,defers:=[] }) (B:=[]) tL (hx N1 (yAk _)) hs hX ⟨hfr,hs.gU⟩ rfl (rfl:CQ { F with round:=none } c none) m _ λc1 a1 e1 hs1 fS eK iO=>?_);have eK:=eK.all (λ_ h=>xz);simp only at eK e1;have oL:a1.defers=[]:=by
   revert iO
   exact iz
  have aZA:=oK eK hps;show(Code.seq _ y).wpIn _ m P _ a1 c1.w
  refine wpIn_seq (wpIn_region ?_);obtain⟨dargs,hdargs⟩:∃d:Array Value,ags.map a1.eval=d:=⟨_,rfl⟩;have hda:dargs=(ags.toList.map a1.eval).toArray:=by rw[<-hdargs];apply yBK;simp
  show wpOpsIn _ m P _ _ [0] a1 c1.w
  simp only[wpOpsIn,yDO,yBv];rw[yAJ (show Region.wanted _ _=true from rfl)];refine⟨λg _=>hF.fn g,?_⟩;have hsem:((Oper.semAt { F with round:=none }.round a1.eval ⟨none,.defer { callee:=.value (.func fc),args:=ags,argTypes:=ts },ty,pos,ed,none⟩:Sem Next).run P c1.w)=.ok (.defer { target:=.fn (.func fc) #[],args:=dargs }) c1.w:=by
   rw[Oper.semAt_none];simp only[execOp,resolve,Act.eval,yAV,yAY,yAX,Deferred.ofValue,hdargs];simp
  rw[hsem];simp only[Oper.uponIn,Act.put,Exit.then];have hy2:=hy N2 (yAk _);rw[<-e1]at hy2;refine mG.wpIn (VU hE hP N2 (rd:=none) (ms:=[]) (a:={ a1 with defers:={ target:=.fn (.func fc) #[],args:=dargs }::a1.defers }) (B:=[{ target:=.fn (.func fc) #[],args:=dargs }]) tL hy2 hs1 (hX.next hs fS) ⟨eK.1,eK.2⟩ (by show _::a1.defers=_;rw[oL]) (rfl:CQ { F with round:=none } c1 none) m _ λc2 a2 e2 hs2 eB pD hm2=>?_);have lO:a2.defers=[{ target:=.fn (.func fc) #[],args:=dargs }]:=by
   rw[hms]at hm2
   revert hm2
   cases a2.defers with
   |nil=>intro h;exact h
   |cons d ds=>intro h;exact h
  obtain⟨⟨vP,pD,hlo⟩,_⟩:=pD;have hinv:∀w,(invoke (.fn (.func fc) #[]) dargs).run P w=.ok (.enter fc dargs) w:=by
   intro w;obtain⟨fnc,_,_,_,_,_,_,_,_,_,_,_,_,_,k1,k2,_⟩:=hc;have hb':fnc.body.isNone=false:=by rw[k2];rfl
   have hn:=hF.name fc fnc k1;simp only[invoke,callFunc,yAV,run_program,k1,hn,hb',yAx,yAN,yAY,yAX];simp
  have leave:∀(u u':FrameMode) (zv:Value),u≠.run->VR c2 zv z->settle u'=.returning->(∀(c0:Frame) (cs:List Frame),c0.mode=u->recoverD (c0::cs)=some (zv,{ c0 with mode:=u' }::cs)\/(recoverD (c0::cs)=none/\zv=.nilIface/\u'=u)) ->
    LeavesInM { F with round:=none } m P fn a2.tmps (JU 0 c (LV qs) σ3) a2.defers u c2.w:=by
   intro u u' zv hu hzv hset hrec;rw[lO];refine⟨hu,.inr ⟨tL.asks,.func fc,#[],fc,dargs,rfl,hinv _,λg _=>hF.fn g,?_⟩⟩;have hc2:QN P E fc z ps c2.σ σ3:=by rw[e2];exact hc
   have:=QN.calls hE hP (n:=m-1) (F:={ F with round:=none }) rfl hc2 tL hs2 ((hX.next hs fS).next hs1 eB) ((aZA.mono eB)) hzv hrec;rw[<-hda]at this;refine CallsDIn.mono this λe u1 w' he=>?_
   obtain⟨⟨v,rfl⟩,hu1,c3,rfl,e3,hs3,nR⟩:=he;show LeavesInM _ m P fn a2.tmps _ [] (settle u1) c3.w
   rw[hu1,hset];have hq3:oI P vP c3.σ fn.results.toList=some qs:=by rw[aNG hlo hlow,e3];exact hqs
   obtain⟨v,rv,hvv⟩:=aC6 (P:=P) hs3 (pD.mono nR) hq3;refine⟨v,rv,?_⟩;have:=Leaves.of hs3 (fS.trans (eB.trans nR)) hvv;rw[e3]at this;exact this
  rcases hz with⟨hx2,rfl⟩ | ⟨v,hx2,KI⟩
  .rcases hx2 with e|e<;>rw[e] <;>
   exact leave .returning .returning .nilIface wz (.bL _ rfl) rfl (λc0 cs h0=>.inr ⟨by simp[recoverD,h0],rfl,rfl⟩)
  .rw[hx2];exact leave (.panicking [{ v,recovered:=false }]) (.panicking [{ v,recovered:=true }]) v wz (VR.aZz KI) rfl (λc0 cs h0=>.inl (by simp[recoverD,h0]))
 exact⟨key.1,key.2⟩
def KO(P:Program)(E:aE)(f:FuncId)(Q:List PD->List U->PD->List U->Prop):Nat->List PD->List U->Option (PD×List U):=by
 classical
 exact λfl args σ=>if h:fl=0/\∃r:PD×List U,K8 P E f args σ r.1 r.2/\Q args σ r.1.strip r.2 then some (h.2.choose.1.strip,h.2.choose.2)else none
theorem aTN{f:FuncId}{Q:List PD->List U->PD->List U->Prop}{args:Bw}{σ σ':Bv}{p:PD}(h:K8 P E f args σ p σ')(k:Q args σ p.strip σ'):∃p σ',KO P E f Q 0 args σ=some (p,σ')/\Q args σ p σ':=by
 have hx:0=0/\∃r:PD×List U,K8 P E f args σ r.1 r.2/\Q args σ r.1.strip r.2:=⟨rfl,(p,σ'),h,k⟩;refine⟨hx.2.choose.1.strip,hx.2.choose.2,?_,hx.2.choose_spec.2⟩;unfold KO;rw[dif_pos hx]
theorem aH.aJV(hE:aH P E)(hP:P.follows .mixedOrders=true){f:FuncId}{Q:List PD->List U->PD->List U->Prop}:aH P (E.add f (KO P E f Q)):=by
 refine⟨fun {F fl f' g' args c vs p σ'} hF hg hgo hs hX hv=>?_,hE.aZ⟩;rw[aE.tI]at hg;split at hg
 .rename_i e;subst e;simp only[yAb]at hg;subst hg;unfold KO at hgo;split at hgo
  .rename_i hx;simp only[yAb,yAc]at hgo;obtain⟨rfl,rfl⟩:=hgo;obtain⟨hfl,hx2⟩:=hx;subst hfl;obtain⟨h1,h2⟩:=hx2.choose_spec.1.calls hE hP hF hs hX hv;exact dw
  .cases hgo
 .exact fj
end
end
end Go.Kz
end
