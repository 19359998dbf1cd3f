/-
  Part P3 of the way: an interpreter over pure data, its soundness, walks through functions.
-/
import Derived.Test.YtefkonhamghgfaaGreatDoorP2
import Derived.Below
import Derived.OpenShut
import Derived.FnData
import Derived.MakeChecks
import Derived.ProofKit
import Derived.LaidMore
import Derived.Stop.Joined
import Derived.ChangeArms
import Derived.DataReads
set_option linter.all false

set_option maxHeartbeats 40000000
noncomputable section
namespace Go.Kz
section
open Go.RowKit
def Cx.start(w:World):Cx:={ w:=w,ρ:=fun _=>undef,σ:=[],D:=fun _=>False,X:=fun _=>True }
theorem Sr.start{w:World}(hg:Gl (.start w)):Sr (.start w) where
 box:=fun _ _ h=>h.elim
 own:=fun _ _ _ _ h=>h.elim
 row:=fun _ _ _ _ _ h=>h.elim
 map:=fun _ _ h=>h.elim
 mark:=fun _ h=>h.elim
 loop:=fun _ _ _ _ _ _ h=>h.elim
 inj:=fun _ _ _ h=>h.elim
 lt:=fun _ _ h=>h.elim
 bF:=fun _ h=>h.elim
 fresh:=fun _ _=>trivial
 jZ:=hg
theorem YC{w:World}(a:Addr):(Cx.start w).av a:=⟨trivial,fun _ _ h=>h.elim⟩
theorem aFR{P:Program}(hN:∀(f:FuncId) fn,P.funcs[f]?=some fn->(fn.name== "runtime.NumGoroutine")=false):Open Fence.wide P:=⟨fun _=>trivial,rfl,hN,rfl⟩
theorem aFS{P:Program}{E:aD}(hE:aE P E)(hP:P.follows .mixedOrders=true)(hN:∀(f:FuncId) fn,P.funcs[f]?=some fn->(fn.name== "runtime.NumGoroutine")=false)
  {n:Nat} {f:FuncId} {args:List PD} {vs:List Value} {w:World} {p:PD} {σ':List aB} (h:iP P E n 0 (.inl f) args []=some (p,σ')) (hg:Gl (.start w)) (hv:aQ (.start w) vs args) :
  Calls P f vs.toArray w fun e w'=>∃v c',e=.returned v/\c'.w=w'/\VR c' v p/\Nx 0 (.start w) c'/\Below w.heap.size w w':=by
 have:=((vX hE hP (aFR hN) n).fn (c:=.start w) (fl:=0) h (.start hg) (fun _ _ h=>h.elim) hv).2 0
 refine Calls.mono (callsIn_wide.1 this) fun e w' he=>?_
 cases e with
 |returned v=>
  obtain⟨c',e1,_,_,nx,hvv,_⟩:=he
  refine⟨v,c',rfl,e1,hvv,nx,?_⟩
  subst e1
  exact⟨nx.os,nx.tape,nx.output,nx.size,fun k hk=>nx.frame k hk (fun _ h=>h.elim)⟩
 |panicked ch=>exact he.elim
 |outgrown=>exact he.elim
theorem aFD{P:Program}{E:aD}(hE:aE P E)(hP:P.follows .mixedOrders=true)(hN:∀(f:FuncId) fn,P.funcs[f]?=some fn->(fn.name== "runtime.NumGoroutine")=false)
  {n:Nat} {f:FuncId} {args:List PD} {vs:List Value} {w:World} {b:Bool} {σ':List aB} (h:iP P E n 0 (.inl f) args []=some (.bool b,σ')) (hg:Gl (.start w)) (hv:aQ (.start w) vs args) :
  Calls P f vs.toArray w fun e w'=>e=.returned (.bool b)/\Below w.heap.size w w':=by
 refine Calls.mono (aFS hE hP hN h hg hv) fun e w' ⟨v,c',h1,h2,h3,h4,h5⟩=>?_
 rw[h3.xD]at h1
 exact⟨h1,h5⟩
end
section
open Go.RowKit
end
section
section
variable{P:Program}{E:aD}{rd:Option Nat}{fl:Nat}{fr:List PD}{ms:List Nat}{σ:List aB}{r:PO}
def Ev(P:Program)(E:aD)(rd:Option Nat)(c:Code)(fl:Nat)(fr:List PD)(ms:List Nat)(σ:List aB)(r:PO):Prop:=∃N,∀n,N<=n->iR P E n rd c fl fr ms σ=some r
def mD(P:Program)(E:aD)(fl:Nat)(f:FuncId ⊕ Nat)(args:List PD)(σ:List aB)(p:PD)(σ':List aB):Prop:=∃N,∀n,N<=n->iP P E n fl f args σ=some (p,σ')
theorem Ev.step{c:Code}{N:Nat}(h:∀n,N<=n->iR P E (n+1) rd c fl fr ms σ=some r):Ev P E rd c fl fr ms σ r:=
 ⟨N+1,fun n hn=>by obtain⟨m,rfl⟩:∃m,n=m+1:=⟨n-1,by omega⟩;exact h m (by omega)⟩
theorem Ev.skip:Ev P E rd .skip fl fr ms σ ⟨.normal,fr,ms,σ⟩:=.step (N:=0) fun _ _=>rfl
theorem Ev.ret:Ev P E rd .ret fl fr ms σ ⟨.ret,fr,ms,σ⟩:=.step (N:=0) fun _ _=>rfl
theorem Ev.exit{id:Nat}:Ev P E rd (.exit id) fl fr ms σ ⟨.exit id,fr,ms,σ⟩:=.step (N:=0) fun _ _=>rfl
theorem Ev.seq{x y:Code}{aL:List PD}{ms1:List Nat}{σ1:List aB}(h:Ev P E rd x fl fr ms σ ⟨.normal,aL,ms1,σ1⟩)(k:Ev P E rd y fl aL ms1 σ1 r):Ev P E rd (.seq x y) fl fr ms σ r:=by
 obtain⟨N,h⟩:=h
 obtain⟨M,k⟩:=k
 exact .step (N:=max N M) fun n hn=>by simp only[iR,h n (by omega)];exact k n (by omega)
theorem Ev.YN{x y:Code}(h:Ev P E rd x fl fr ms σ r)(hr:r.x≠.normal):Ev P E rd (.seq x y) fl fr ms σ r:=by
 obtain⟨N,h⟩:=h
 exact .step (N:=N) fun n hn=>by
  simp only[iR,h n hn]
  obtain⟨x,a,b,c⟩:=r
  cases x<;>first|exact absurd rfl hr|rfl
theorem Ev.cond{g:Operand}{x y:Code}{b:Bool}(hg:bB fr g=some (.bool b))(h:Ev P E rd (if b then x else y) fl fr ms σ r):Ev P E rd (.cond g x y) fl fr ms σ r:=by
 obtain⟨N,h⟩:=h
 exact .step (N:=N) fun n hn=>by
  simp only[iR,hg]
  cases b<;>exact h n hn
theorem Ev.block{id:Nat}{b:Code}{aL:List PD}{ms1:List Nat}{σ1:List aB}{k:Nat}(h:Ev P E rd b fl fr ms σ ⟨.exit k,aL,ms1,σ1⟩):Ev P E rd (.block id b) fl fr ms σ ⟨if k=id then .normal else .exit k,aL,ms1,σ1⟩:=by
 obtain⟨N,h⟩:=h
 exact .step (N:=N) fun n hn=>by simp only[iR,h n hn]
theorem Ev.YO{id:Nat}{b:Code}(h:Ev P E rd b fl fr ms σ r)(hr:∀k,r.x≠.exit k):Ev P E rd (.block id b) fl fr ms σ r:=by
 obtain⟨N,h⟩:=h
 exact .step (N:=N) fun n hn=>by
  simp only[iR,h n hn]
  obtain⟨x,a,b,c⟩:=r
  cases x<;>first|exact absurd rfl (hr _)|rfl
theorem Ev.loop{b:Code}{aL:List PD}{ms1:List Nat}{σ1:List aB}(h:Ev P E rd b fl fr ms σ ⟨.normal,aL,ms1,σ1⟩)(k:Ev P E rd (.loop b) fl aL ms1 σ1 r):Ev P E rd (.loop b) fl fr ms σ r:=by
 obtain⟨N,h⟩:=h
 obtain⟨M,k⟩:=k
 exact .step (N:=max N M) fun n hn=>by simp only[iR,h n (by omega)];exact k n (by omega)
theorem Ev.YP{b:Code}(h:Ev P E rd b fl fr ms σ r)(hr:r.x≠.normal):Ev P E rd (.loop b) fl fr ms σ r:=by
 obtain⟨N,h⟩:=h
 exact .step (N:=N) fun n hn=>by
  simp only[iR,h n hn]
  obtain⟨x,a,b,c⟩:=r
  cases x<;>first|exact absurd rfl hr|rfl
theorem Ev.region{id:Nat}{ops:Array Oper}{aL:List PD}{σ1:List aB}{N:Nat}(h:∀n,N<=n->gF P (iP P E n) fl ops ops.toList fr σ=some (aL,σ1)):Ev P E rd (.region id ops false) fl fr ms σ ⟨.normal,aL,ms,σ1⟩:=
 .step (N:=N) fun n hn=>by
  have:=h n hn
  unfold iP at this
  simp only[iR,yT,this]
theorem Ev.pair:True:=trivial
theorem Ev.aFQ{id:Nat}{ops:Array Oper}{aL:List PD}{σ1:List aB}{N:Nat}(h:∀n,N<=n->oC P (iP P E n) fl ops fr σ=some (aL,σ1)):Ev P E rd (.region id ops true) fl fr ms σ ⟨.normal,aL,ms,σ1⟩:=
 .step (N:=N) fun n hn=>by
  have:=h n hn
  unfold iP at this
  simp only[iR,this]
theorem Ev.draw{id:Nat}{ops:Array Oper}{aL:List PD}{σ1:List aB}{N:Nat}(h:∀n,N<=n->tE P (iP P E n) fl ops fr σ=some (aL,σ1)):Ev P E rd (.region id ops true) fl fr ms σ ⟨.normal,aL,ms,σ1⟩:=
 .aFQ (N:=N) fun n hn=>by unfold oC;rw[h n hn]
theorem mD.body{f:FuncId}{fn:Func}{c:Code}{args:List PD}{p:PD}{σ':List aB}(hE:E f=none)(hf:P.funcs[f]?=some fn)(hb:fn.body=some c)
  (h:Ev P E none c fl (args++List.replicate (fn.ntmps-args.length) (.aH [])) [] σ r) (hr:fR P fl fn r=some (p,σ')):mD P E fl (.inl f) args σ p σ':=by
 obtain⟨N,h⟩:=h
 exact⟨N,fun n hn=>by simp only[iP,rP,hE,BL,hf,hb,h n hn,hr]⟩
theorem mD.ext:True:=trivial
end
def aD.add(E:aD)(f:FuncId)(g:Nat->List PD->List aB->Option (PD×List aB)):aD:=fun f'=>if f'=f then some g else E f'
theorem aE.add{P:Program}{E:aD}(hE:aE P E)(hP:P.follows .mixedOrders=true){f:FuncId}{g:Nat->List PD->List aB->Option (PD×List aB)}
  (h:∀fl args σ p σ',g fl args σ=some (p,σ')->mD P E fl (.inl f) args σ p σ'):aE P (E.add f g):=by
 intro F fl f' g' args c vs p σ' hF hg hgo hs hX hv
 unfold aD.add at hg
 split at hg
 ·rename_i e
  subst e
  simp only[yAb]at hg;subst hg
  obtain⟨N,hN⟩:=h fl args c.σ p σ' hgo
  exact(vX hE hP hF N).fn (hN N (yAk _)) hs hX hv
 ·exact hE hF hg hgo hs hX hv
end
section
def vW(ops:Array Oper)(i:Nat):Bool:=lD ops.toList (cN ops.toList []) i
def mR(P:Program)(call:dD)(fl:Nat)(ops:Array Oper):List (Bool×Oper)->List PD->List aB->Option (List PD×List aB)
 | [],fr,σ=>some (fr,σ)
 |(free,o)::rest,fr,σ=>
  if Region.wanted o (bI ops fr)then
   match free with
   |true=>match cP P call fl fr σ o.op with
    |some (p,σ')=>mR P call fl ops rest (bE fr o.dst p) σ'
    |none=>none
   |false=>match cP P call (max fl σ.length) fr σ o.op with
    |some (p,σ')=>mR P call fl ops rest (bE fr o.dst p) (σ++σ'.drop σ.length)
    |none=>none
  else mR P call fl ops rest (bE fr o.dst (.aH [])) σ
def flags(ops:Array Oper)(i:Nat):List Oper->List (Bool×Oper)
 | []=>[]
 |o::r=>(!fM o.op||vW ops i,o)::flags ops (i+1) r
def EA(ops:Array Oper):Bool:=
 vZ ops (cN ops.toList [])&&ops.toList.all (fun o=>!dM o.op) &&
 (List.range ops.size).all fun k=>!lC lE ops.toList k||(List.range ops.size).all fun i=>!lC gX ops.toList i||!loose (cN ops.toList []) i k
section
variable{P:Program}{call:dD}{fl:Nat}{ops:Array Oper}
theorem YU{fr:List PD}{σ:List aB}{op:Op}(h:jR op=true):dL P fl fr σ op=none:=by
 cases op<;>first|rfl|(simp[jR]at h;done)|(rename_i s d x;simp only[jR,Bool.not_eq_true']at h;simp only[dL,h,yAx,if_false];done)|skip
 rename_i c
 obtain⟨callee,args,ts⟩:=c
 cases callee with
 |value f=>simp[jR]at h
 |invoke r m=>simp[jR]at h
 |builtin b=>cases b<;>first|rfl|(simp[jR]at h)
theorem YV{k:Nat}{free:Bool}{fr:List PD}{σ:List aB}{op:Op}(hs:(jR op||gX op||dM op||qS op||eH op)=true)(ha:dM op=false) :
  nS P call fl free k fr σ op=(match (!fM op||free)with
   |true=>cP P call fl fr σ op
   |false=>match cP P call (max fl σ.length) fr σ op with
    |some (p,σ')=>some (p,σ++σ'.drop σ.length)
    |none=>none):=by
 unfold nS
 by_cases hA:jR op=true
 ·obtain⟨hpc,_,hW,_⟩:=YW (fr:=fr) hA
  have hM:fM op=false:=by simp[eH]at hW;exact hW.2
  rw[if_pos hA,hM]
  simp only[Bool.not_false,Bool.true_or]
  unfold cP pop
  rw[hpc]
  simp only
  cases hp:eP P fr op with
  |some p=>rfl
  |none=>
   simp only
   rw[YU hA]
 ·simp only[Bool.not_eq_true]at hA
  rw[hA,ha]
  simp only[yAx,if_false]
  by_cases hM:fM op=true
  ·rw[hM]
   cases free with
   |true=>simp
   |false=>
    simp only[Bool.not_false,Bool.and_self,if_true,Bool.not_true,Bool.or_false]
    cases cP P call (max fl σ.length) fr σ op<;>rfl
  ·simp only[Bool.not_eq_true]at hM
   rw[hM]
   simp only[Bool.false_and,yAx,if_false,Bool.not_false,Bool.true_or]
   have h3:gX op=true\/qS op=true\/lE op=true:=by
    simp only[hA,ha,eH,hM,Bool.false_or,Bool.or_false,Bool.or_eq_true]at hs
    rcases hs with(h|h)|h
    ·exact .inl h
    ·exact .inr (.inl h)
    ·exact .inr (.inr h)
   obtain⟨hv,hp,_⟩:=HI (P:=P) (fr:=fr) h3
   unfold cP pop
   rw[hp,hv]
theorem YK(h:EA ops=true)(fr:List PD)(σ:List aB):tE P call fl ops fr σ=mR P call fl ops (flags ops 0 ops.toList) fr σ:=by
 simp only[EA,yAr]at h
 obtain⟨⟨hreg,hall⟩,hfeet⟩:=h
 have hr:=LQ hreg
 have hna:∀(l:List Oper),l.all (fun o=>!dM o.op)=true->oB P l=some []:=by
  intro l
  induction l with
  |nil=>intro _;rfl
  |cons o l ih=>
   intro hl
   simp only[List.all_cons,yAr,Bool.not_eq_true']at hl
   unfold oB
   split
   ·rename_i t ht;rw[ht]at hl;simp[dM]at hl
   ·exact ih hl.2
 have key:∀(l:List Oper) (i k:Nat) (fr:List PD) (σ:List aB),ops.toList.drop i=l ->
   (match jC P call fl ops (cN ops.toList []) i k l fr σ with|some (_,fr',σ')=>some (fr',σ')|none=>none)=mR P call fl ops (flags ops i l) fr σ:=by
  intro l
  induction l with
  |nil=>intro i k fr σ _;rfl
  |cons o rest ih=>
   intro i k fr σ hdrop
   have ho:ops[i]?=some o:=by
    have:=congrArg List.head? hdrop
    rw[List.head?_drop]at this
    simpa using this
   have wB:ops.toList.drop (i+1)=rest:=by rw[<-List.drop_drop,hdrop];rfl
   have hal:dM o.op=false:=by
    have:=yAn.1 hall o (Array.mem_toList_iff.2 (Array.mem_of_getElem? ho))
    simpa using this
   simp only[jC,flags,mR]
   cases hw:Region.wanted o (bI ops fr)with
   |true=>
    simp only[if_true]
    rw[YV (hr.shape i o ho) hal]
    simp only[vW]
    cases(!fM o.op||lD ops.toList (cN ops.toList []) i)with
    |true=>
     simp only
     cases hp:cP P call fl fr σ o.op with
     |none=>rfl
     |some q=>
      obtain⟨p,σ'⟩:=q
      simp only
      rw[<-ih (i+1) (if dM o.op=true then k+1 else k) (bE fr o.dst p) σ' wB]
      cases jC P call fl ops (cN ops.toList []) (i+1) (if dM o.op=true then k+1 else k) rest (bE fr o.dst p) σ'<;>rfl
    |false=>
     simp only
     cases hp:cP P call (max fl σ.length) fr σ o.op with
     |none=>rfl
     |some q=>
      obtain⟨p,σ'⟩:=q
      simp only
      rw[<-ih (i+1) (if dM o.op=true then k+1 else k) (bE fr o.dst p) _ wB]
      cases jC P call fl ops (cN ops.toList []) (i+1) (if dM o.op=true then k+1 else k) rest (bE fr o.dst p) (σ++σ'.drop σ.length)<;>rfl
   |false=>
    simp only[yAx,if_false]
    rw[<-ih (i+1) (if dM o.op=true then k+1 else k) (bE fr o.dst (.aH [])) σ wB]
    cases jC P call fl ops (cN ops.toList []) (i+1) (if dM o.op=true then k+1 else k) rest (bE fr o.dst (.aH [])) σ<;>rfl
 unfold tE
 simp only[hreg,if_true,hna _ hall,yAl]
 rw[<-key ops.toList 0 σ.length fr σ (by simp)]
 split
 ·rename_i tr fr' σ' hops
  have hfo:tI ops.toList (cN ops.toList []) tr=true:=by
   simp only[tI,yAn,List.mem_range]
   simp only[yAn,List.mem_range]at hfeet
   intro k hk
   have h1:=hfeet k (by simpa using hk)
   cases hs:lC lE ops.toList k with
   |false=>simp
   |true=>
    rw[hs]at h1
    simp only[Bool.not_true,Bool.false_or,yAn,List.mem_range]at h1 ⊢
    intro i hi
    have h2:=h1 i (by simpa using hi)
    simp only[Bool.or_eq_true]at h2 ⊢
    exact .inl h2
  rw[hfo,hops];rfl
 ·rename_i hops;rw[hops]
end
end
def Cx.bare(c:Cx):Cx:={ w:=c.w,ρ:=fun _=>undef,σ:=[],D:=fun _=>False,X:=c.av }
theorem YS{c:Cx}(hs:Sr c){a:Addr}(h:c.w.heap.size<=a.block):c.av a:=by
 refine⟨hs.fresh a h,fun id o hd ho=>?_⟩
 have key:∀b,aV (c.ρ id)=some b->a.block≠b:=fun b hb e=>by
  have:=hs.lt id b hd hb
  omega
 cases o with
 |none=>trivial
 |box p=>exact key
 |own e size n=>intro b hb e;exact absurd e (key b hb)
 |row e size ver ds=>exact key
 |map es=>trivial
 |mark=>trivial
 |loop st fr ps asg bd=>trivial
theorem LP{c:Cx}(a:Addr):c.bare.av a↔c.av a:=⟨fun h=>h.1,fun h=>⟨h,fun _ _ hd=>hd.elim⟩⟩
theorem YT{g:Nat}{ds:List PD}(h:wS g=some ds):PD.eM ds=true:=by
 unfold wS at h
 split at h
 ·simp only[yAb]at h;subst h
  rw[PD.p7]
  simp only[yAn,yAw]
  rintro x ⟨y,_,rfl⟩
  simp[PD.aY]
 ·simp at h
theorem Sr.bare{c:Cx}(hs:Sr c):Sr c.bare where
 box:=fun _ _ h=>h.elim
 own:=fun _ _ _ _ h=>h.elim
 row:=fun _ _ _ _ _ h=>h.elim
 map:=fun _ _ h=>h.elim
 mark:=fun _ h=>h.elim
 loop:=fun _ _ _ _ _ _ h=>h.elim
 inj:=fun _ _ _ h=>h.elim
 lt:=fun _ _ h=>h.elim
 bF:=fun _ h=>h.elim
 fresh:=fun _ h=>YS hs h
 jZ:=⟨fun g ds e=>(hs.jZ.1 g ds e).free (fun a v h1 h2=>⟨(LP a).2 h1,h2⟩) (by simpa [PD.aY]using YT e),fun g hh=>⟨(hs.jZ.2 g hh).1,fun _ h=>h.elim⟩⟩
theorem aE.D0{P:Program}{E:aD}(hE:aE P E)(hP:P.follows .mixedOrders=true){f:FuncId}{g:List PD->Option PD}
  (h:∀args p,g args=some p->∃p1 σ1,mD P E 0 (.inl f) (args.map PD.strip) [] p1 σ1/\p1.strip=p/\PD.eM (args.map PD.strip)=true/\p.aY=true) :
  aE P (E.add f (fun _ args σ=>match g args with|some p=>some (p,σ)|none=>none)):=by
 intro F fl f' g' args c vs p σ' hF hg hgo hs hX hv
 unfold aD.add at hg
 split at hg
 ·rename_i e
  subst e
  simp only[yAb]at hg;subst hg
  cases hga:g args with
  |none=>simp only[hga]at hgo;cases hgo
  |some q=>
   simp only[hga,yAb,yAc]at hgo
   obtain⟨rfl,rfl⟩:=hgo
   obtain⟨p1,σ1,⟨N,hN⟩,e1,e2,e3⟩:=h args q hga
   have gH:aQ c.bare vs (args.map PD.strip):=hv.strip.free (fun a v h1 h2=>⟨(LP a).2 h1,h2⟩) e2
   have:=(vX hE hP hF N).fn (c:=c.bare) (hN N (yAk _)) hs.bare (fun _ _ h=>h.elim) gH
   refine⟨this.1,fun m=>CallsIn.mono (this.2 m) fun e w' he=>?_⟩
   cases e with
   |returned v=>
    obtain⟨c1,rfl,rfl,hs1,nx,hvv,_⟩:=he
    have hgr:c.w.grownBy c1.w none:=⟨nx.os,nx.tape,nx.output,nx.size,fun k hk _=>nx.frame k hk (fun _ h=>h.elim)⟩
    refine⟨c.at c1.w,rfl,rfl,hs.grow hgr,Nx.grow hs hgr,?_,fun _ h=>.inl h⟩
    have hp:=hvv.strip
    rw[e1]at hp
    have hav:∀a,c1.av a->(c.at c1.w).av a:=fun a h1=>by
     have h3:c1.X a:=h1.1
     rw[nx.X]at h3
     exact h3
    exact VR.free (c:=c1) (c':=c.at c1.w) (fun a _ h1 h2=>⟨hav a h1,h2⟩) hp e3
   |panicked ch=>exact he.elim
   |outgrown=>exact he.elim
 ·exact hE hF hg hgo hs hX hv
section
structure Em (α:Type) where
 U:α->PD
 inj:∀ {x y},U x=U y->x=y
 str:∀x,(U x).strip=U x
 dU:∀x,(U x).aY=true
structure cA (α:Type) where
 cells:α->List PD
 len:Nat
 hlen:∀x,(cells x).length=len
 inj:∀ {x y},cells x=cells y->x=y
 str:∀x,(cells x).map PD.strip=cells x
 dU:∀x,(cells x).all PD.aY=true
section
variable{α β γ δ:Type}
open Classical in
def Em.dec(e:Em α)(p:PD):Option α:=if h:∃x,p.strip=e.U x then some h.choose else none
theorem Em.dC{e:Em α}{p:PD}{x:α}(h:p.strip=e.U x):e.dec p=some x:=by
 have hx:∃x,p.strip=e.U x:=⟨x,h⟩
 unfold Em.dec
 rw[dif_pos hx]
 exact congrArg some (e.inj (hx.choose_spec.symm.trans h))
theorem Em.o0{e:Em α}{p:PD}{x:α}(h:e.dec p=some x):p.strip=e.U x:=by
 unfold Em.dec at h
 split at h
 ·rename_i hx
  simp only[yAb]at h
  subst h
  exact hx.choose_spec
 ·cases h
@[simp] theorem Em.YQ{e:Em α}{x:α}:e.dec (e.U x)=some x:=Em.dC (e.str x)
def Em.int(k:IntKind):Em Int:=⟨PD.int k,fun h=>by simpa using h,fun _=>by simp[PD.strip],fun _=>by simp[PD.aY]⟩
def Em.bool:Em Bool:=⟨PD.bool,fun h=>by simpa using h,fun _=>by simp[PD.strip],fun _=>by simp[PD.aY]⟩
def Em.text:Em (List UInt8):=⟨PD.str,fun h=>by simpa using h,fun _=>by simp[PD.strip],fun _=>by simp[PD.aY]⟩
def Em.unit:Em Unit:=⟨fun _=>.aH [],fun _=>rfl,fun _=>by simp[PD.strip,PD.j7],fun _=>by simp[PD.aY,PD.eM]⟩
def sz(k:Nat)(xs:List α):Nat:=if xs.length=0 then 0 else k
@[simp] theorem aRM{k:Nat}{xs:List α}:(xs=[]\/k=sz k xs)=True:=by
  cases xs<;>simp[sz]
theorem cG{k:Nat}{xs:List α}(h:xs≠[]):sz k xs=k:=by
 cases xs<;>simp[sz]at *
theorem YR{f:α->β}(hf:∀x y,f x=f y->x=y):∀(xs ys:List α),xs.map f=ys.map f->xs=ys
 | [],[],_=>rfl
 | [],_::_,h=>by simp at h
 |_::_,[],h=>by simp at h
 |x::xs,y::ys,h=>by
  simp only[List.map_cons,List.cons.injEq]at h
  rw[hf x y h.1,YR hf xs ys h.2]
def Em.list(e:Em α)(k:Nat):Em (List α) where
 U:=fun xs=>.slice (sz k xs) (xs.map e.U) .any
 inj:=fun {x y} h=>by
  simp only[PD.slice.injEq,and_true]at h
  exact YR (fun _ _ h=>e.inj h) x y h.2
 str:=fun xs=>by
  rw[PD.lG]
  have:(xs.map e.U).map PD.strip=xs.map e.U:=by
   rw[List.map_map]
   exact yBg fun x _=>e.str x
  rw[this]
  cases xs<;>simp[sz]
 dU:=fun xs=>by
  simp only[PD.aY,PD.p7,Bool.and_true,List.all_map]
  exact yAn.2 fun x _=>e.dU x
def Em.qR(a:Em α)(b:Em β):Em (α×β) where
 U:=fun x=>.aH [a.U x.1,b.U x.2]
 inj:=fun {x y} h=>by
  simp only[PD.aH.injEq,List.cons.injEq,and_true]at h
  exact Prod.ext (a.inj h.1) (b.inj h.2)
 str:=fun x=>by simp[PD.strip,PD.j7,a.str,b.str]
 dU:=fun x=>by simp[PD.aY,PD.eM,a.dU,b.dU]
def Em.aFO(a:Em α)(b:Em β)(c:Em γ):Em (α×β×γ) where
 U:=fun x=>.aH [a.U x.1,b.U x.2.1,c.U x.2.2]
 inj:=fun {x y} h=>by
  simp only[PD.aH.injEq,List.cons.injEq,and_true]at h
  exact Prod.ext (a.inj h.1) (Prod.ext (b.inj h.2.1) (c.inj h.2.2))
 str:=fun x=>by simp[PD.strip,PD.j7,a.str,b.str,c.str]
 dU:=fun x=>by simp[PD.aY,PD.eM,a.dU,b.dU,c.dU]
def Em.aFP(a:Em α)(b:Em β)(c:Em γ)(d:Em δ):Em (α×β×γ×δ) where
 U:=fun x=>.aH [a.U x.1,b.U x.2.1,c.U x.2.2.1,d.U x.2.2.2]
 inj:=fun {x y} h=>by
  simp only[PD.aH.injEq,List.cons.injEq,and_true]at h
  exact Prod.ext (a.inj h.1) (Prod.ext (b.inj h.2.1) (Prod.ext (c.inj h.2.2.1) (d.inj h.2.2.2)))
 str:=fun x=>by simp[PD.strip,PD.j7,a.str,b.str,c.str,d.str]
 dU:=fun x=>by simp[PD.aY,PD.eM,a.dU,b.dU,c.dU,d.dU]
def cA.one(e:Em α):cA α where
 cells:=fun x=>[e.U x]
 len:=1
 hlen:=fun _=>rfl
 inj:=fun h=>e.inj (by simpa using h)
 str:=fun x=>by simp[e.str]
 dU:=fun x=>by simp[e.dU]
def cA.pair(a:cA α)(b:cA β):cA (α×β) where
 cells:=fun x=>a.cells x.1++b.cells x.2
 len:=a.len+b.len
 hlen:=fun _=>by simp[a.hlen,b.hlen]
 inj:=fun {x y} h=>by
  have:=List.append_inj h (by simp[a.hlen])
  exact Prod.ext (a.inj this.1) (b.inj this.2)
 str:=fun _=>by simp only[yBh,a.str,b.str]
 dU:=fun _=>by simp only[List.all_append,a.dU,b.dU,Bool.and_self]
def cA.mA(a:cA β)(f:α->β)(hf:∀x y,f x=f y->x=y):cA α where
 cells:=fun x=>a.cells (f x)
 len:=a.len
 hlen:=fun x=>a.hlen _
 inj:=fun h=>hf _ _ (a.inj h)
 str:=fun x=>a.str _
 dU:=fun x=>a.dU _
def Em.agg(a:cA α):Em α where
 U:=fun x=>.agg (a.cells x)
 inj:=fun h=>a.inj (by simpa using h)
 str:=fun _=>by simp only[PD.strip,PD.xF,a.str]
 dU:=fun _=>by simp only[PD.aY,PD.p7,a.dU]
def Em.mA(a:Em β)(f:α->β)(hf:∀x y,f x=f y->x=y):Em α where
 U:=fun x=>a.U (f x)
 inj:=fun h=>hf _ _ (a.inj h)
 str:=fun x=>a.str _
 dU:=fun x=>a.dU _
@[simp] theorem aRN{k:IntKind}{n:Int}:(Em.int k).U n=.int k n:=rfl
@[simp] theorem aRO{b:Bool}:Em.bool.U b=.bool b:=rfl
@[simp] theorem aRP{s:List UInt8}:Em.text.U s=.str s:=rfl
@[simp] theorem aRQ{u:Unit}:Em.unit.U u=.aH []:=rfl
@[simp] theorem bJ{e:Em α}{k:Nat}{xs:List α}:(e.list k).U xs=.slice (sz k xs) (xs.map e.U) .any:=rfl
@[simp] theorem aRR{a:Em α}{b:Em β}{x:α×β}:(a.qR b).U x=.aH [a.U x.1,b.U x.2]:=rfl
@[simp] theorem aRS{a:Em α}{b:Em β}{c:Em γ}{x:α×β×γ}:(a.aFO b c).U x=.aH [a.U x.1,b.U x.2.1,c.U x.2.2]:=rfl
@[simp] theorem aRT{a:Em α}{b:Em β}{c:Em γ}{d:Em δ}{x:α×β×γ×δ}:(a.aFP b c d).U x=.aH [a.U x.1,b.U x.2.1,c.U x.2.2.1,d.U x.2.2.2]:=rfl
@[simp] theorem aRU{k:IntKind}{n:Int}:(Em.int k).dec (.int k n)=some n:=Em.dC (by simp[PD.strip])
open Classical in
def dX(c:Prop)(x:Option α):Option α:=if c then x else none
@[simp] theorem fB{c:Prop}{x:Option α}(h:c):dX c x=x:=if_pos h
theorem fL{c:Prop}{x:Option α}{y:α}(h:dX c x=some y):c/\x=some y:=by
 unfold dX at h
 split at h
 ·exact⟨‹_›,h⟩
 ·cases h
def uH(r:Em β)(F:Option β):List PD->Option PD
 | []=>match F with|some z=>some (r.U z)|none=>none
 |_=>none
def b9(a:Em α)(r:Em β)(F:α->Option β):List PD->Option PD
 | [p]=>match a.dec p with
   |some x=>match F x with|some z=>some (r.U z)|none=>none
   |none=>none
 |_=>none
def fQ(a:Em α)(b:Em β)(r:Em γ)(F:α->β->Option γ):List PD->Option PD
 | [p,q]=>match a.dec p,b.dec q with
   |some x,some y=>match F x y with|some z=>some (r.U z)|none=>none
   |_,_=>none
 |_=>none
def D1(a:Em α)(b:Em β)(c:Em γ)(r:Em δ)(F:α->β->γ->Option δ):List PD->Option PD
 | [p,q,s]=>match a.dec p,b.dec q,c.dec s with
   |some x,some y,some u=>match F x y u with|some z=>some (r.U z)|none=>none
   |_,_,_=>none
 |_=>none
def entry(g:List PD->Option PD):Nat->List PD->List aB->Option (PD×List aB):=fun _ args σ=>match g args with|some p=>some (p,σ)|none=>none
variable{P:Program}{E:aD}{f:FuncId}
def aS(P:Program)(E:aD)(f:FuncId)(args:List PD)(p:PD):Prop:=∃p1 σ1,mD P E 0 (.inl f) args [] p1 σ1/\p1.strip=p
theorem aE.nR(hE:aE P E)(hP:P.follows .mixedOrders=true){a:Em α}{r:Em β}{F:α->Option β}(h:∀x z,F x=some z->aS P E f [a.U x] (r.U z)):aE P (E.add f (entry (b9 a r F))):=by
 refine hE.D0 hP fun args p hg=>?_
 match args,hg with
 | [q],hg=>
   simp only[b9]at hg
   split at hg
   ·rename_i x hx
    split at hg
    ·rename_i z hz
     simp only[yAb]at hg;subst hg
     obtain⟨p1,σ1,e1,e2⟩:=h x z hz
     have:=Em.o0 hx
     exact⟨p1,σ1,by simpa [this]using e1,e2,by simp[this,PD.eM,a.dU],r.dU z⟩
    ·cases hg
   ·cases hg
theorem aE.wY(hE:aE P E)(hP:P.follows .mixedOrders=true){a:Em α}{b:Em β}{r:Em γ}{F:α->β->Option γ}(h:∀x y z,F x y=some z->aS P E f [a.U x,b.U y] (r.U z)) :
  aE P (E.add f (entry (fQ a b r F))):=by
 refine hE.D0 hP fun args p hg=>?_
 match args,hg with
 | [q,s],hg=>
   simp only[fQ]at hg
   split at hg
   ·rename_i x y hx hy
    split at hg
    ·rename_i z hz
     simp only[yAb]at hg;subst hg
     obtain⟨p1,σ1,e1,e2⟩:=h x y z hz
     have h1:=Em.o0 hx
     have h2:=Em.o0 hy
     exact⟨p1,σ1,by simpa [h1,h2]using e1,e2,by simp[h1,h2,PD.eM,a.dU,b.dU],r.dU z⟩
    ·cases hg
   ·cases hg
theorem aS.of:True:=trivial
end
end
def pap(P:Program)(fl:Nat)(σ:List aB)(t:TypeId)(s x:PD):Option (PD×List aB):=
 match dS P 8 fl σ t s x with
 |some r=>some r
 |none=>fZ P fl σ t s x.strip
def uU(P:Program)(t:TypeId)(sz:Nat):Nat->List PD->List aB->Option (PD×List aB):=fun fl args σ=>match args with
 | [.slice _ [] _]=>some (.slice 0 [] .full,σ)
 | [.slice (n+1) (x::xs) tok]=>pap P fl σ t (.slice sz [] .full) (.slice (n+1) (x::xs) tok)
 | [.aF id ver off n s]=>pap P fl σ t (.slice sz [] .full) (.aF id ver off n s)
 |_=>none
theorem aOO{c:Cx}{v:Value}{n:Nat}{tok:Tok}(h:VR c v (.slice n [] tok)):VR c v (.slice n [] .pE)\/VR c v (.slice n [] .qY):=by
 obtain⟨A,cap,fl,rfl,a1,a2,a3,a4,a5,a6,a7,a8⟩:=h.nW
 cases A with
 |none=>exact .inl (.slice none _ cap n [] .pE fl rfl a1 a2 a3 a4 a5 a6 a7 ⟨_,_,rfl⟩)
 |some a=>exact .inr (.slice (some a) _ cap n [] .qY fl rfl a1 a2 a3 a4 a5 a6 a7 ⟨_,_,_,rfl⟩)
theorem aOP{c:Cx}{v:Value}{n m:Nat}{tok:Tok}(h:VR c v (.slice n [] tok))(ht:∀id,tok≠.own id):VR c v (.slice m [] tok):=by
 obtain⟨A,cap,fl,rfl,a1,a2,a3,a4,a5,a6,a7,a8⟩:=h.nW
 have hf:fl=[]:=yAf (by rw[a4];simp)
 subst hf
 refine .slice A _ cap m [] tok [] rfl a1 a2 (by simp) (by simp) a5 a6 a7 ?_
 cases tok with
 |own id=>exact absurd rfl (ht id)
 |_=>exact a8
theorem aEk{c:Cx}{v:Value}{p:PD}(h:VR c v p):aQ c [v] [p]:=⟨rfl,fun i u d h1 h2=>by
 match i with
 |0=>simp at h1 h2;subst h1;subst h2;exact h
 |i+1=>simp at h1⟩
def GS(t:TypeId):Code:=
 .seq (.region 0 #[{ dst:=some 2,op:=Op.assign (Operand.const (Value.slice none 0 0)),type:=t,pos:= "slices.go:355",after:=#[],guard:=none }] false)
  (.seq (.seq (.region 1 #[{ dst:=some 3,op:=Op.move (Operand.tmp 0),type:=t,pos:= "slices.go:357",after:=#[],guard:=none },
        { dst:=some 4,op:=Op.binOp BinOp.eql t (Operand.tmp 3) (Operand.const (Value.slice none 0 0)) t,type:=4,pos:= "slices.go:357",after:=#[{ on:=0,ground:=Ground.data }],guard:=none }] false)
    (.cond (Operand.tmp 4) (.seq (.region 2 #[{ dst:=some 2,op:=Op.assign (Operand.const (Value.slice none 0 0)),type:=t,pos:= "slices.go:358",after:=#[],guard:=none }] false) .ret) .skip))
   (.seq (.region 3 #[{ dst:=some 5,op:=Op.buildSlice t 0 #[],type:=t,pos:= "slices.go:362",after:=#[],guard:=none },
     { dst:=some 6,op:=Op.move (Operand.tmp 0),type:=t,pos:= "slices.go:362",after:=#[],guard:=none },
     { dst:=some 7,op:=Op.call { callee:=Callee.builtin Builtin.append,args:=#[Operand.tmp 5,Operand.tmp 6],argTypes:=#[t,t] },type:=t,pos:= "slices.go:362",after:=#[{ on:=0,ground:=Ground.data },{ on:=1,ground:=Ground.data }],guard:=none },
     { dst:=some 2,op:=Op.assign (Operand.tmp 7),type:=t,pos:= "slices.go:362",after:=#[{ on:=2,ground:=Ground.data },{ on:=2,ground:=Ground.chain },{ on:=0,ground:=Ground.phase },{ on:=1,ground:=Ground.phase },{ on:=2,ground:=Ground.phase }],guard:=none }] false) .ret))
theorem WM{P:Program}{E:aD}{f t sz:Nat}{e:TypeId}{fn:Func}(hE:E f=none)(hf:P.funcs[f]?=some fn)(hb:fn.body=some (GS t))(hn:fn.ntmps=8)(hr:fn.results=#[.tmp 2])(hu:P.underlying t=some (.slice e))
  (hnew:gG P t 0 []=some (.slice sz [] .full)) {fl:Nat} {σ:List aB} {s:PD} {r:PD} {σ1:List aB} (hs:qQ s=some false) (ha:pap P fl σ t (.slice sz [] .full) s=some (r,σ1)):iP P E 8 fl (.inl f) [s] σ=some (r,σ1):=by
 have h1:eA P .eql t s (.slice 0 [] .full)=none:=by
  unfold qQ at hs
  split at hs
  ·simp[eA,o3,lS,hu]
  ·simp[eA,o3,lS,hu]
  ·simp[eA,o3,lS,hu]
  ·cases hs
 have h2:yP P .eql t s (.const (.slice none 0 0))=some (.bool false):=by simp[yP,hu,hs]
 have hm:dL P fl [s,.aH [],.slice 0 [] .full,s,.bool false,.slice sz [] .full,s,.aH []] σ (Op.call { callee:=Callee.builtin Builtin.append,args:=#[Operand.tmp 5,Operand.tmp 6],argTypes:=#[t,t] })=some (r,σ1):=by
  unfold pap at ha
  simp only[dL,gW,bB,List.getD_cons_succ,List.getD_cons_zero,if_true]
  exact ha
 have hbs:∀fr,dL P fl fr σ (Op.buildSlice t 0 #[])=some (.slice sz [] .full,σ):=fun fr=>by simp[dL,o5,hnew]
 simp[iP,rP,hE,BL,hf,hb,hn,hr,GS,iR,yT,gF,Region.wanted,cP,iU,pop,eP,uJ,gW,bB,ofValue,tG,bE,h1,h2,hbs,hm,fR,xE,v7,yQ,BI]
theorem aOQ{P:Program}{E:aD}{f t:Nat}{e:TypeId}{fn:Func}(hE:E f=none)(hf:P.funcs[f]?=some fn)(hb:fn.body=some (GS t))(hn:fn.ntmps=8)(hr:fn.results=#[.tmp 2])(hu:P.underlying t=some (.slice e))
  {fl:Nat} {σ:List aB} {n:Nat}:iP P E 8 fl (.inl f) [.slice n [] .pE] σ=some (.slice 0 [] .full,σ):=by
 have h1:eA P .eql t (.slice n [] .pE) (.slice 0 [] .full)=none:=by simp[eA,o3,lS,hu]
 have h2:yP P .eql t (.slice n [] .pE) (.const (.slice none 0 0))=some (.bool true):=by simp[yP,hu,qQ]
 simp[iP,rP,hE,BL,hf,hb,hn,hr,GS,iR,yT,gF,Region.wanted,cP,iU,pop,eP,uJ,gW,bB,ofValue,tG,bE,h1,h2,fR,xE,v7,yQ,BI]
theorem aE.AR{P:Program}{E:aD}(hE:aE P E)(hP:P.follows .mixedOrders=true){f:Nat}(t sz:Nat)(e:TypeId)(CZ:E f=none)(hfn:(P.funcs[f]?).map (fun fn=>(fn.body,fn.ntmps,fn.results))=some (some (GS t),8,#[.tmp 2]))(hu:P.underlying t=some (.slice e))
  (hnew:gG P t 0 []=some (.slice sz [] .full)) (h1':∀fl σ n,pap P fl σ t (.slice sz [] .full) (.slice n [] .qY)=some (.slice sz [] .full,σ)) :
  aE P (E.add f (uU P t sz)):=by
 obtain⟨fn,hf,hb,hn,hr⟩:∃fn,P.funcs[f]?=some fn/\fn.body=some (GS t)/\fn.ntmps=8/\fn.results=#[.tmp 2]:=by
  cases hx:P.funcs[f]? with
  |none=>rw[hx]at hfn;cases hfn
  |some fn=>
   rw[hx]at hfn
   simp only[yBc,yAb,yAc]at hfn
   exact⟨fn,rfl,hfn.1,hfn.2.1,hfn.2.2⟩
 intro F fl f' g' args c vs p σ' hF hg hgo hs hX hv
 unfold aD.add at hg
 split at hg
 ·rename_i e
  subst e
  simp only[yAb]at hg;subst hg
  have key:=vX hE hP hF 8
  unfold uU at hgo
  split at hgo
  ·rename_i n tok
   simp only[yAb,yAc]at hgo
   obtain⟨rfl,rfl⟩:=hgo
   match vs,hv.1 with
   | [v],_=>
     have gH:=hv.2 0 v _ rfl rfl
     rcases aOO gH with hn' | hn'
     ·exact key.fn (aOQ CZ hf hb hn hr hu) hs hX (aEk hn')
     ·have:=key.fn (WM CZ hf hb hn hr hu hnew (by rfl) (h1' fl c.σ n)) hs hX (aEk hn')
      refine⟨this.1,fun m=>CallsIn.mono (this.2 m) fun e w' he=>?_⟩
      cases e with
      |returned v=>
       obtain⟨c1,q1,q2,q3,q4,q5,q6⟩:=he
       exact⟨c1,q1,q2,q3,q4,aOP q5 (fun id e=>by cases e),q6⟩
      |panicked ch=>exact he.elim
      |outgrown=>exact he.elim
  ·rename_i n x xs tok
   exact key.fn (WM CZ hf hb hn hr hu hnew (by simp[qQ]) hgo) hs hX hv
  ·rename_i id ver off n s
   exact key.fn (WM CZ hf hb hn hr hu hnew rfl hgo) hs hX hv
  ·cases hgo
 ·exact hE hF hg hgo hs hX hv
section
section
variable{P:Program}{E:aD}{rd:Option Nat}{fl:Nat}{fr:List PD}{ms:List Nat}{σ:List aB}{Q:PO->Prop}
structure Wp (P:Program) (E:aD) (rd:Option Nat) (c:Code) (fl:Nat) (fr:List PD) (ms:List Nat) (σ:List aB) (Q:PO->Prop):Prop where
 ex:∃r,Ev P E rd c fl fr ms σ r/\Q r
def gE(E:aD):dD
 |fl,.inl f,args,σ=>match E f with
  |some g=>g fl args σ
  |none=>none
 |_,.inr _,_,_=>none
theorem aFN{n:Nat}{tg:FuncId ⊕ Nat}{args:List PD}{x:PD×List aB}(h:gE E fl tg args σ=some x):iP P E n fl tg args σ=some x:=by
 cases tg with
 |inl f=>
  simp only[gE]at h
  simp only[iP,rP]
  split at h
  ·rename_i g hg;rw[hg];exact h
  ·cases h
 |inr id=>cases h
theorem LN{n:Nat}{op:Op}{x:PD×List aB}(h:cP P (gE E) fl fr σ op=some x):cP P (iP P E n) fl fr σ op=some x:=by
 unfold cP at *
 split at h
 ·exact aFN h
 ·exact h
theorem LJ{n:Nat}{ops:Array Oper}:∀ {l:List Oper} {fr:List PD} {σ:List aB} {x:List PD×List aB},gF P (gE E) fl ops l fr σ=some x->gF P (iP P E n) fl ops l fr σ=some x
 | [],_,_,_,h=>h
 |o::rest,fr,σ,x,h=>by
  simp only[gF]at h ⊢
  split at h
  ·rename_i hw
   rw[if_pos hw]
   split at h
   ·rename_i p σ1 hp
    rw[LN hp]
    exact LJ h
   ·cases h
  ·rename_i hw
   rw[if_neg hw]
   exact LJ h
theorem LO{n:Nat}{ops:Array Oper}:∀ {l:List (Bool×Oper)} {fr:List PD} {σ:List aB} {x:List PD×List aB},mR P (gE E) fl ops l fr σ=some x->mR P (iP P E n) fl ops l fr σ=some x
 | [],_,_,_,h=>h
 |(free,o)::rest,fr,σ,x,h=>by
  simp only[mR]at h ⊢
  split at h
  ·rename_i hw
   rw[if_pos hw]
   cases free with
   |true=>
    simp only at h ⊢
    split at h
    ·rename_i p σ1 hp
     rw[LN hp]
     exact LO h
    ·cases h
   |false=>
    simp only at h ⊢
    split at h
    ·rename_i p σ1 hp
     rw[LN hp]
     exact LO h
    ·cases h
  ·rename_i hw
   rw[if_neg hw]
   exact LO h
theorem Wp.mono{c:Code}{Q':PO->Prop}(h:Wp P E rd c fl fr ms σ Q)(k:∀r,Q r->Q' r):Wp P E rd c fl fr ms σ Q':=by
 obtain⟨r,h1,h2⟩:=h.ex
 exact⟨r,h1,k r h2⟩
theorem Wp.skip(h:Q ⟨.normal,fr,ms,σ⟩):Wp P E rd .skip fl fr ms σ Q:=⟨_,.skip,h⟩
theorem Wp.ret(h:Q ⟨.ret,fr,ms,σ⟩):Wp P E rd .ret fl fr ms σ Q:=⟨_,.ret,h⟩
theorem Wp.exit{id:Nat}(h:Q ⟨.exit id,fr,ms,σ⟩):Wp P E rd (.exit id) fl fr ms σ Q:=⟨_,.exit,h⟩
structure kI (P:Program) (E:aD) (rd:Option Nat) (y:Code) (fl:Nat) (Q:PO->Prop) (r:PO):Prop where
 nx:r.x=.normal->Wp P E rd y fl r.fr r.ms r.σ Q
 out:r.x≠.normal->Q r
theorem Wp.seq{x y:Code}(h:Wp P E rd x fl fr ms σ (kI P E rd y fl Q)):Wp P E rd (.seq x y) fl fr ms σ Q:=by
 obtain⟨⟨x1,aL,ms1,σ1⟩,h1,h2⟩:=h.ex
 cases x1 with
 |normal=>
  obtain⟨r2,h3,h4⟩:=(h2.nx rfl).ex
  exact⟨r2,.seq h1 h3,h4⟩
 |ret=>exact⟨_,.YN h1 (by simp),h2.out (by simp)⟩
 |exit k=>exact⟨_,.YN h1 (by simp),h2.out (by simp)⟩
theorem kI.normal{y:Code}(h:Wp P E rd y fl fr ms σ Q):kI P E rd y fl Q ⟨.normal,fr,ms,σ⟩:=⟨fun _=>h,fun e=>absurd rfl e⟩
theorem kI.ret{y:Code}(h:Q ⟨.ret,fr,ms,σ⟩):kI P E rd y fl Q ⟨.ret,fr,ms,σ⟩:=⟨fun e=>(by cases e),fun _=>h⟩
theorem kI.exit{y:Code}{k:Nat}(h:Q ⟨.exit k,fr,ms,σ⟩):kI P E rd y fl Q ⟨.exit k,fr,ms,σ⟩:=⟨fun e=>(by cases e),fun _=>h⟩
theorem Wp.cond{g:Operand}{x y:Code}{b:Bool}(hg:bB fr g=some (.bool b))(h1:b=true->Wp P E rd x fl fr ms σ Q)(h2:b=false->Wp P E rd y fl fr ms σ Q):Wp P E rd (.cond g x y) fl fr ms σ Q:=by
 cases b with
 |true=>obtain⟨r,e1,e2⟩:=(h1 rfl).ex;exact⟨r,.cond hg e1,e2⟩
 |false=>obtain⟨r,e1,e2⟩:=(h2 rfl).ex;exact⟨r,.cond hg e1,e2⟩
theorem Wp.cond_true{g:Operand}{x y:Code}(hg:bB fr g=some (.bool true))(h1:Wp P E rd x fl fr ms σ Q):Wp P E rd (.cond g x y) fl fr ms σ Q:=.cond hg (fun _=>h1) (fun h=>by cases h)
theorem Wp.cond_false{g:Operand}{x y:Code}(hg:bB fr g=some (.bool false))(h1:Wp P E rd y fl fr ms σ Q):Wp P E rd (.cond g x y) fl fr ms σ Q:=.cond hg (fun h=>by cases h) (fun _=>h1)
structure mQ (id:Nat) (Q:PO->Prop) (r:PO):Prop where
 out:∀k,r.x=.exit k->Q ⟨if k=id then .normal else .exit k,r.fr,r.ms,r.σ⟩
 on:(∀k,r.x≠.exit k)->Q r
theorem Wp.block{id:Nat}{b:Code}(h:Wp P E rd b fl fr ms σ (mQ id Q)):Wp P E rd (.block id b) fl fr ms σ Q:=by
 obtain⟨⟨x1,aL,ms1,σ1⟩,h1,h2⟩:=h.ex
 cases x1 with
 |normal=>exact⟨_,.YO h1 (by simp),h2.on (by simp)⟩
 |ret=>exact⟨_,.YO h1 (by simp),h2.on (by simp)⟩
 |exit k=>exact⟨_,.block h1,h2.out k rfl⟩
theorem mQ.normal{id:Nat}(h:Q ⟨.normal,fr,ms,σ⟩):mQ id Q ⟨.normal,fr,ms,σ⟩:=⟨fun _ e=>(by cases e),fun _=>h⟩
theorem mQ.ret{id:Nat}(h:Q ⟨.ret,fr,ms,σ⟩):mQ id Q ⟨.ret,fr,ms,σ⟩:=⟨fun _ e=>(by cases e),fun _=>h⟩
theorem mQ.here{id:Nat}(h:Q ⟨.normal,fr,ms,σ⟩):mQ id Q ⟨.exit id,fr,ms,σ⟩:=
 ⟨fun k e=>by simp only[PX.exit.injEq]at e;subst e;rw[if_pos rfl];exact h,fun e=>absurd rfl (e id)⟩
theorem mQ.there:True:=trivial
structure vV (P:Program) (E:aD) (rd:Option Nat) (b:Code) (fl:Nat) (Q:PO->Prop) (r:PO):Prop where
 nx:r.x=.normal->Wp P E rd (.loop b) fl r.fr r.ms r.σ Q
 out:r.x≠.normal->Q r
theorem Wp.loop{b:Code}(h:Wp P E rd b fl fr ms σ (vV P E rd b fl Q)):Wp P E rd (.loop b) fl fr ms σ Q:=by
 obtain⟨⟨x1,aL,ms1,σ1⟩,h1,h2⟩:=h.ex
 cases x1 with
 |normal=>
  obtain⟨r2,h3,h4⟩:=(h2.nx rfl).ex
  exact⟨r2,.loop h1 h3,h4⟩
 |ret=>exact⟨_,.YP h1 (by simp),h2.out (by simp)⟩
 |exit k=>exact⟨_,.YP h1 (by simp),h2.out (by simp)⟩
theorem vV.normal:True:=trivial
theorem vV.ret:True:=trivial
theorem vV.exit:True:=trivial
theorem Wp.region{id:Nat}{ops:Array Oper}{aL:List PD}{σ1:List aB}(h:gF P (gE E) fl ops ops.toList fr σ=some (aL,σ1))(k:Q ⟨.normal,aL,ms,σ1⟩):Wp P E rd (.region id ops false) fl fr ms σ Q:=
 ⟨_,.region (N:=0) (fun _ _=>LJ h),k⟩
theorem Wp.draw{id:Nat}{ops:Array Oper}{aL:List PD}{σ1:List aB}(hs:EA ops=true)(h:mR P (gE E) fl ops (flags ops 0 ops.toList) fr σ=some (aL,σ1))(k:Q ⟨.normal,aL,ms,σ1⟩) :
  Wp P E rd (.region id ops true) fl fr ms σ Q:=
 ⟨_,.draw (N:=0) (fun _ _=>by rw[YK hs];exact LO h),k⟩
theorem aS.body{f:FuncId}{fn:Func}{c:Code}{args:List PD}{p:PD}(hE:E f=none)(hf:P.funcs[f]?=some fn)(hb:fn.body=some c)
  (h:Wp P E none c 0 (args++List.replicate (fn.ntmps-args.length) (.aH [])) [] [] (fun r=>∃p1 σ1,fR P 0 fn r=some (p1,σ1)/\p1.strip=p)):aS P E f args p:=by
 obtain⟨r,h1,p1,σ1,h2,h3⟩:=h.ex
 exact⟨p1,σ1,.body hE hf hb h1 h2,h3⟩
end
theorem wrap_i64{x:Int}(h:-9223372036854775808<=x)(h':x<=9223372036854775807):IntKind.i64.wrap x=x:=by
 simp[IntKind.wrap,IntKind.min,IntKind.max,IntKind.signed,IntKind.bits]
 try omega
theorem wrap_u64{x:Int}(h:0<=x)(h':x<=18446744073709551615):IntKind.u64.wrap x=x:=by
 simp[IntKind.wrap,IntKind.min,IntKind.max,IntKind.signed,IntKind.bits]
 try omega
end
section
attribute [simp] gF mR flags Region.wanted bI cP iU pop eP o4 bB bE gW uJ ofValue tG tH fM PD.cells gE o5 EB
attribute [simp] PD.plain PD.setCells cX D7 fN fR xE v7 yQ BI D8 LK EC v8 HH BJ
attribute [simp] PD.strip PD.j7 D9 mC HE HD rO
@[simp] theorem xF{α:Type}{e:Em α}{xs:List α}:PD.j7 (xs.map e.U)=xs.map e.U:=by
  rw[PD.xF,List.map_map]
  exact yBg fun x _=>e.str x
@[simp] theorem aQC{α:Type}{e:Em α}{k:Nat}{xs:List α}{tok:Tok}:(PD.slice k (xs.map e.U) tok).strip=.slice (sz k xs) (xs.map e.U) .any:=by
  cases xs with
  |nil=>simp[PD.strip,sz]
  |cons x xs=>simp[PD.strip,sz,e.str]
section
variable{P:Program}{t:TypeId}{k k':IntKind}{a b:Int}{op:BinOp}
@[simp] theorem aQD:eA P .add t (.int k a) (.int k' b)=if k=k' then gY .add k a b else none:=rfl
@[simp] theorem aQE:eA P .sub t (.int k a) (.int k' b)=if k=k' then gY .sub k a b else none:=rfl
@[simp] theorem aQF:eA P .mul t (.int k a) (.int k' b)=if k=k' then gY .mul k a b else none:=rfl
@[simp] theorem aQG:eA P .quo t (.int k a) (.int k' b)=if k=k' then gY .quo k a b else none:=rfl
@[simp] theorem aQH:eA P .rem t (.int k a) (.int k' b)=if k=k' then gY .rem k a b else none:=rfl
@[simp] theorem aQI:eA P .eql t (.int k a) (.int k' b)=if k=k' then gY .eql k a b else none:=rfl
@[simp] theorem aQJ:eA P .neq t (.int k a) (.int k' b)=if k=k' then gY .neq k a b else none:=rfl
@[simp] theorem aQK:eA P .lss t (.int k a) (.int k' b)=if k=k' then gY .lss k a b else none:=rfl
@[simp] theorem aQL:eA P .leq t (.int k a) (.int k' b)=if k=k' then gY .leq k a b else none:=rfl
@[simp] theorem aQM:eA P .gtr t (.int k a) (.int k' b)=if k=k' then gY .gtr k a b else none:=rfl
@[simp] theorem aQN:eA P .geq t (.int k a) (.int k' b)=if k=k' then gY .geq k a b else none:=rfl
@[simp] theorem aQO:eA P .and t (.int k a) (.int k' b)=if k=k' then gY .and k a b else none:=rfl
@[simp] theorem aQP:eA P .or t (.int k a) (.int k' b)=if k=k' then gY .or k a b else none:=rfl
@[simp] theorem aQQ:eA P .xor t (.int k a) (.int k' b)=if k=k' then gY .xor k a b else none:=rfl
@[simp] theorem aQR:eA P .andNot t (.int k a) (.int k' b)=if k=k' then gY .andNot k a b else none:=rfl
@[simp] theorem aQS:eA P .shl t (.int k a) (.int k' b)=BK .shl k a b:=rfl
@[simp] theorem aQT:eA P .shr t (.int k a) (.int k' b)=BK .shr k a b:=rfl
@[simp] theorem aQU{x y:List UInt8}:eA P op t (.str x) (.str y)=HH op x y:=rfl
theorem aFK{x y:PD}{c:Bool}(h1:∀k a k' b,¬(x=.int k a/\y=.int k' b))(h2:∀a b,¬(x=.str a/\y=.str b))(h:lS P 12 t x y=some c)(h3:∀xs ys,¬(x=.agg xs/\y=.agg ys)):eA P .eql t x y=some (.bool c):=by
 unfold eA o3
 split
 ·exact absurd ⟨rfl,rfl⟩ (h1 _ _ _ _)
 ·exact absurd ⟨rfl,rfl⟩ (h2 _ _)
 ·simp only
  split
  ·rename_i b hb
   split at hb
   ·exact absurd ⟨rfl,rfl⟩ (h3 _ _)
   ·rw[h]at hb;rw[Option.some.inj hb]
  ·rename_i hb
   split at hb
   ·exact absurd ⟨rfl,rfl⟩ (h3 _ _)
   ·rw[h]at hb;cases hb
@[simp] theorem aQV{x y:Bool}(hu:P.underlying t=some .bool):eA P .eql t (.bool x) (.bool y)=some (.bool (decide (x=y))):=
  aFK (by simp) (by simp) (by unfold lS;simp only[hu];cases x<;>cases y<;>rfl) (by simp)
section
variable{e:TypeId}{i o:Nat}{cs:List PD}
end
end
section
variable{k:IntKind}{x y:Int}
@[simp] theorem aQW:gY .add k x y=some (.int k (k.wrap (x+y))):=rfl
@[simp] theorem aQX:gY .sub k x y=some (.int k (k.wrap (x-y))):=rfl
@[simp] theorem aQY:gY .mul k x y=some (.int k (k.wrap (x*y))):=rfl
@[simp] theorem aQZ:gY .quo k x y=if y=0 then none else some (.int k (k.wrap (x.tdiv y))):=rfl
@[simp] theorem aQ0:gY .rem k x y=if y=0 then none else some (.int k (x.tmod y)):=rfl
@[simp] theorem aQ1:gY .eql k x y=some (.bool (decide (x=y))):=rfl
@[simp] theorem aQ2:gY .neq k x y=some (.bool (!decide (x=y))):=rfl
@[simp] theorem aQ3:gY .lss k x y=some (.bool (decide (x<y))):=rfl
@[simp] theorem aQ4:gY .leq k x y=some (.bool (decide (x<=y))):=rfl
@[simp] theorem aQ5:gY .gtr k x y=some (.bool (decide (x > y))):=rfl
@[simp] theorem aQ6:gY .geq k x y=some (.bool (decide (x >= y))):=rfl
@[simp] theorem aQ7:gY .and k x y=(match wA .and k x y with|some z=>some (.int k z)|none=>none):=rfl
@[simp] theorem aQ8:gY .or k x y=(match wA .or k x y with|some z=>some (.int k z)|none=>none):=rfl
@[simp] theorem aQ9:gY .xor k x y=(match wA .xor k x y with|some z=>some (.int k z)|none=>none):=rfl
@[simp] theorem aRa:gY .andNot k x y=(match wA .andNot k x y with|some z=>some (.int k z)|none=>none):=rfl
end
section
variable{P:Program}{fl:Nat}{fr:List PD}{σ:List aB}
@[simp] theorem aRb{t:TypeId}{x:Operand}:dL P fl fr σ (.load t x)=(match bB fr x with
  |some a=>(match o4 P σ t a with|some p=>some (p,σ)|none=>none)
  |none=>none):=rfl
@[simp] theorem aRc{t:TypeId}{x y:Operand}:dL P fl fr σ (.store t x y)=(match bB fr x,bB fr y with
  |some a,some p=>(match mC P fl σ t a p with|some σ'=>some (.aH [],σ')|none=>none)
  |_,_=>none):=rfl
@[simp] theorem aRd{t:TypeId}{x:Operand}:dL P fl fr σ (.box t x)=(match bB fr x with
  |some p=>if p.cells.all PD.plain then some (.ptr σ.length 0,σ++[.box p])else none
  |none=>none):=rfl
@[simp] theorem aRe{t:TypeId}{cs:List PD}:boxed t (.agg cs)=if LL t=true then .typed t (cs.map uK)else .agg cs:=rfl
@[simp] theorem aRf:uK (.slice 0 [] .full)=.slice 0 [] .nil:=rfl
@[simp] theorem aRg:uK .eN=.eN:=rfl
@[simp] theorem aRh{k:IntKind}{n:Int}:uK (.int k n)=.int k n:=rfl
@[simp] theorem aRi{s:List UInt8}:uK (.str s)=.str s:=rfl
@[simp] theorem aRj{t:TypeId}{k:IntKind}{n:Int}:boxed t (.int k n)=.int k n:=rfl
@[simp] theorem aRk{t:TypeId}{b:Bool}:boxed t (.bool b)=.bool b:=rfl
@[simp] theorem aRl{t:TypeId}{s:List UInt8}:boxed t (.str s)=.str s:=rfl
@[simp] theorem aRm{t:TypeId}{n:Nat}{xs:List PD}{tok:Tok}:boxed t (.slice n xs tok)=.slice n xs tok:=rfl
@[simp] theorem aRn{t:TypeId}:boxed t .eN=.eN:=rfl
@[simp] theorem aRo{t:TypeId}:boxed t .gU=.gU:=rfl
@[simp] theorem aRp{t:TypeId}{v:Value}:boxed t (.eV v)=.eV v:=rfl
@[simp] theorem aRq{t:TypeId}:dL P fl fr σ (.alloc t)=(match eE P t with
  |some p=>if p.cells.all PD.plain then some (.ptr σ.length 0,σ++[.box (boxed t p)])else none
  |none=>none):=rfl
@[simp] theorem aRr{t:TypeId}{len:Nat}{parts:Array (Nat×Operand)}:dL P fl fr σ (.buildSlice t len parts)=(match o5 fr parts.toList with
  |some ps=>(match gG P t len (ps.map fun q=>(q.1,q.2.strip))with|some p=>some (p,σ)|none=>none)
  |none=>none):=rfl
@[simp] theorem aRs{args:Array Operand}{ts:Array TypeId}:dL P fl fr σ (.call { callee:=.builtin .append,args:=args,argTypes:=ts })=(match gW fr args.toList,ts.toList with
  |some [s,x],[t,t']=>if t=t' then(match dS P fr.length fl σ t s x with|some r=>some r|none=>fZ P fl σ t s x.strip)else(match P.underlying t',x with
   |some .string,.str l=>if p6 P t=true then(match dS P fr.length fl σ t s (.slice (if l.length=0 then 0 else 1) (l.map fun b=>.int .u8 b.toNat) .any)with|some r=>some r|none=>fZ P fl σ t s (.slice (if l.length=0 then 0 else 1) (l.map fun b=>.int .u8 b.toNat) .any))else none
   |some (.int .i64),.int .i64 m=>yR P fr.length σ t s m
   |_,_=>none)
  |_,_=>none):=rfl
def mT(n:Nat):PD->Int->Option PD
 |.slice size xs _,i=>if 0<=i then(if (xs.length=0\/n=size)/\0<n then(match xs[i.toNat]? with|some p=>some (.eF p.cells 0)|none=>none)else none)else none
 |.dE id off m size,i=>if 0<=i then(if n=size/\i.toNat<m then some (.ptr id (off+i.toNat*n))else none)else none
 |.aF id ver off m size,i=>if 0<=i then(if n=size/\i.toNat<m then some (.dQ id ver (off+i.toNat*n))else none)else none
 |_,_=>none
def PW(len n:Nat)(x:PD)(i:Int):Option PD:=
 if 0<=i then(if i.toNat<len then(match x with
  |.ptr id off=>some (.ptr id (off+i.toNat*n))
  |.eF cs off=>some (.eF cs (off+i.toNat*n))
  |.dQ id ver off=>some (.dQ id ver (off+i.toNat*n))
  |_=>none)else none)else none
@[simp] theorem aRt{t:TypeId}{x:PD}{k:IntKind}{i:Int}:lT P t x (.int k i)=(match P.underlying t with
  |some (.array len e)=>(match bT P e with|some n=>PW len n x i|none=>none)
  |some (.slice e)=>(match bT P e with|some n=>mT n x i|none=>none)
  |_=>none):=by
  unfold lT
  by_cases h0:0<=i
  ·cases hu:P.underlying t with
   |none=>simp[h0]
   |some d=>
    cases d<;>simp only[iQ,h0,if_true,PW]<;>try rfl
    rename_i e
    cases bT P e<;>cases x<;>simp only[mT,h0,if_true]<;>rfl
  ·cases hu:P.underlying t with
   |none=>simp[h0]
   |some d=>
    cases d<;>simp only[iQ,h0,if_false,PW]<;>try rfl
    all_goals (rename_i e;cases bT P e<;>cases x<;>simp only[mT,h0,if_false])
@[simp] theorem aRu{n size:Nat}{xs:List PD}{tok:Tok}{i:Int}(h0:0<=i)(hn0:0<n)(hs:xs=[]\/n=size)(hi:i.toNat<xs.length):mT n (.slice size xs tok) i=some (.eF xs[i.toNat].cells 0):=by
  have hx:xs.length=0\/n=size:=hs.imp (fun h=>by rw[h];rfl) (fun h=>h)
  simp only[mT,h0,hx,hn0,and_self,if_true,yAh hi]
@[simp] theorem aRv{n id off m:Nat}{i:Int}(h0:0<=i)(hi:i.toNat<m):mT n (.dE id off m n) i=some (.ptr id (off+i.toNat*n)):=by
  simp only[mT,h0,hi,and_self,if_true]
def LM(s:List UInt8)(i:Int):Option PD:=if 0<=i then(match s[i.toNat]? with|some b=>some (.int .u8 b.toNat)|none=>none)else none
@[simp] theorem aRw{s:List UInt8}{i:Int}(h0:0<=i)(hi:i.toNat<s.length):LM s i=some (.int .u8 s[i.toNat].toNat):=by
  unfold LM;rw[if_pos h0,yAh hi]
@[simp] theorem aRx{t:TypeId}{s:List UInt8}{k:IntKind}{i:Int}:BD P t (.str s) (.int k i)=(match P.underlying t with
  |some .string=>LM s i
  |_=>none):=by
  unfold BD LM
  by_cases h0:0<=i
  ·cases hu:P.underlying t with
   |none=>simp[h0]
   |some d=>cases d<;>simp only[iQ,h0,if_true]<;>rfl
  ·cases hu:P.underlying t with
   |none=>simp[h0]
   |some d=>cases d<;>simp only[iQ,h0,if_false]<;>try rfl
@[simp] theorem aRy{k:IntKind}{i:Int}(h:0<=i):iQ (some (.int k i))=some i.toNat:=by simp only[iQ,h,if_true]
def yS(n l h:Nat):Option (Nat×Nat):=if l<=h/\h<=n then some (l,h)else none
@[simp] theorem aRz{n l h:Nat}(h1:l<=h)(h2:h<=n):yS n l h=some (l,h):=by simp[yS,h1,h2]
@[simp] theorem aRA{n:Nat}{x:Option PD}:lF n (some x) none=(match iQ x with|some l=>yS n l n|none=>none):=by
  simp only[lF,yS]
  cases iQ x<;>rfl
@[simp] theorem aRB{n:Nat}{x:Option PD}:lF n none (some x)=(match iQ x with|some h=>yS n 0 h|none=>none):=by
  simp only[lF,yS]
  cases iQ x<;>rfl
@[simp] theorem aRC{n:Nat}{x y:Option PD}:lF n (some x) (some y)=(match iQ y,iQ x with|some h,some l=>yS n l h|_,_=>none):=by
  simp only[lF,yS]
  cases iQ x<;>cases iQ y<;>rfl
def ED(n size:Nat)(xs:List PD)(tok:Tok)(lh:Option (Nat×Nat)):Option PD:=
 match lh with
 |some (l,h)=>if xs.length=0\/n=size then some (.slice size ((xs.drop l).take (h-l))
      (if h=xs.length then(match tok with|.full=>.full|.own id=>if l=0 then .own id else .any|_=>.any)else .any))else none
 |none=>none
def PY(s:List UInt8)(lh:Option (Nat×Nat)):Option PD:=
 match lh with
 |some (l,h)=>some (.str ((s.drop l).take (h-l)))
 |none=>none
@[simp] theorem aRD{n size l h:Nat}{xs:List PD}(hs:xs=[]\/n=size):ED n size xs .any (some (l,h))=some (.slice size ((xs.drop l).take (h-l)) .any):=by
  have hx:xs.length=0\/n=size:=hs.imp (fun h=>by rw[h];rfl) (fun h=>h)
  simp only[ED,hx,if_true,ite_self]
@[simp] theorem aRE{s:List UInt8}{l h:Nat}:PY s (some (l,h))=some (.str ((s.drop l).take (h-l))):=rfl
@[simp] theorem aRF{t:TypeId}{s:List UInt8}{lo hi:Option (Option PD)}:pZ P t (.str s) lo hi none=(match P.underlying t with
  |some .string=>PY s (lF s.length lo hi)
  |_=>none):=by
  unfold pZ PY
  cases hu:P.underlying t with
  |none=>rfl
  |some d=>cases d<;>simp only[Option.isSome_none,yAx,if_false]<;>rfl
@[simp] theorem aRG{t:TypeId}{size:Nat}{xs:List PD}{tok:Tok}{lo hi:Option (Option PD)}:pZ P t (.slice size xs tok) lo hi none=(match P.underlying t with
  |some (.slice e)=>(match bT P e with|some n=>ED n size xs tok (lF xs.length lo hi)|none=>none)
  |_=>none):=by
  unfold pZ ED
  cases hu:P.underlying t with
  |none=>rfl
  |some d=>
   cases d<;>simp only<;>try rfl
   cases bT P _<;>simp only
   cases lF xs.length lo hi<;>simp only
   split<;>rfl
@[simp] theorem aRH{t:TypeId}{id off m size:Nat}{lo hi:Option (Option PD)}:pZ P t (.dE id off m size) lo hi none=(match P.underlying t with
  |some (.slice e)=>(match bT P e with|some n=>(match lF m lo hi with|some (l,h)=>if n=size/\(l=0\/l<m)then some (.dE id (off+l*n) (h-l) n)else none|none=>none)|none=>none)
  |_=>none):=by
  unfold pZ
  cases hu:P.underlying t with
  |none=>rfl
  |some d=>
   cases d<;>simp only<;>try rfl
   cases bT P _<;>simp only
   cases lF m lo hi<;>simp only
end
section
variable{α:Type}
def St(B:List aB)(e:TypeId)(k n:Nat):List aB:=B++(if n=0 then []else [.own e k n])
def jB(id n:Nat):Tok:=if n=0 then .full else .own id
@[simp] theorem PZ{B:List aB}{e:TypeId}{k n i:Nat}(h:i<B.length):(St B e k n)[i]?=B[i]?:=by
  unfold St
  rw[yAg h]
@[simp] theorem aRI{B:List aB}{e:TypeId}{k n i:Nat}{o:aB}(h:i<B.length):(St B e k n).set i o=St (B.set i o) e k n:=by
  unfold St
  rw[List.set_append_left _ _ h]
@[simp] theorem aRJ{B:List aB}{e:TypeId}{k:Nat}:St B e k 0=B:=by simp[St]
@[simp] theorem aRK{id:Nat}:jB id 0=.full:=rfl
theorem aFL{P:Program}{fl:Nat}{B:List aB}{t e:TypeId}{i:TypeInfo}{z:Value}{n s:Nat}{xs:List PD}{p:PD}{tk:Tok}(hu:P.underlying t=some (.slice e))(hi:P.info? e=some i)(hz:i.zero=some z)(hzs:z.cells.size=i.size)
  (h0:0<i.size) (hs:xs=[]\/s=i.size) (hn:xs.length=n) (hfl:fl<=B.length) (hm:xs.length+1<=maxLen) (hb:(xs.length+1)*i.bytes<=140737488355328) :
  fZ P fl (St B e i.size n) t (.slice s xs (jB B.length n)) (.slice i.size [p] tk)=some (.slice i.size (xs++[p]) (jB B.length (n+1)),St B e i.size (n+1)):=by
 subst hn
 have hs':xs.length=0\/s=i.size:=hs.imp (fun h=>by rw[h];rfl) (fun h=>h)
 have h1:[p].length=1:=rfl
 simp only[fZ,hu,hi,hz,h1,hs',h0,hzs,hm,hb,or_true,and_self,if_true,Nat.one_ne_zero,if_false]
 cases xs with
 |nil=>simp[jB,St]
 |cons x xs=>
  have hs2:s=i.size:=by simpa using hs
  subst hs2
  simp[jB,St,hfl]
def mS(P:Program)(e:TypeId):Option (Nat×Nat):=match P.info? e with
 |some i=>match i.zero with
  |some z=>if z.cells.size=i.size/\0<i.size then some (i.size,i.bytes)else none
  |none=>none
 |none=>none
theorem aFM{P:Program}{fl:Nat}{B:List aB}{t e:TypeId}{k b n s id:Nat}{xs:List PD}{p:PD}{tk:Tok}(hu:P.underlying t=some (.slice e))(hi:mS P e=some (k,b))
  (hs:xs=[]\/s=k) (hn:xs.length=n) (hid:id=B.length) (hfl:fl<=B.length) (hm:xs.length+1<=maxLen) (hb:(xs.length+1)*b<=140737488355328) :
  fZ P fl (St B e k n) t (.slice s xs (jB id n)) (.slice k [p] tk)=some (.slice k (xs++[p]) (jB id (n+1)),St B e k (n+1)):=by
 unfold mS at hi
 split at hi
 ·rename_i i h1
  split at hi
  ·rename_i z h2
   split at hi
   ·rename_i h3
    simp only[yAb,yAc]at hi
    obtain⟨rfl,rfl⟩:=hi
    subst hid
    exact aFL hu h1 h2 h3.1 h3.2 hs hn hfl hm hb
   ·cases hi
  ·cases hi
 ·cases hi
attribute [simp] nQ
def P0(P:Program)(e:TypeId)(k n:Nat):Prop:=match mS P e with
 |some (k',b)=>k'=k/\n*b<=140737488355328
 |none=>False
attribute [simp] P0
@[simp] theorem aRL{P:Program}{fl:Nat}{B:List aB}{t e:TypeId}{k n s id:Nat}{xs:List PD}{p:PD}{tk:Tok}(hu:P.underlying t=some (.slice e))(hi:P0 P e k (xs.length+1))
  (hs:xs=[]\/s=k) (hn:n=xs.length) (hid:id=B.length) (hfl:fl<=B.length) (hm:xs.length+1<=100000000000000) :
  fZ P fl (St B e k n) t (.slice s xs (jB id n)) (.slice k [p] tk)=some (.slice k (xs++[p]) (jB id (n+1)),St B e k (n+1)):=by
  unfold P0 at hi
  split at hi
  ·rename_i k' b h1
   obtain⟨rfl,h2⟩:=hi
   exact aFM hu h1 hs hn.symm hid hfl (by simp only[maxLen];omega) h2
  ·cases hi
attribute [simp] gG
end
end
section
section
variable{P:Program}{E:aD}{rd:Option Nat}{fl:Nat}{fr:List PD}{ms:List Nat}{σ:List aB}{Q:PO->Prop}{ops:Array Oper}
structure aN (P:Program) (E:aD) (fl:Nat) (f:FuncId ⊕ Nat) (args:List PD) (σ:List aB) (R:PD->List aB->Prop):Prop where
 ex:∃p σ',mD P E fl f args σ p σ'/\R p σ'
theorem aN.mono:True:=trivial
theorem aN.of:True:=trivial
structure PU (P:Program) (E:aD) (fl:Nat) (ops:Array Oper) (l:List (Bool×Oper)) (fr:List PD) (σ:List aB) (R:List PD->List aB->Prop):Prop where
 ex:∃N fr' σ',(∀n,N<=n->mR P (iP P E n) fl ops l fr σ=some (fr',σ'))/\R fr' σ'
theorem PU.nil:True:=trivial
theorem PU.take:True:=trivial
theorem PU.call:True:=trivial
theorem aN.round:True:=trivial
inductive BG (P:Program) (E:aD) (fl id:Nat) (K:List aB->Prop):List (List PD)->List aB->List aB->Prop
 |nil {σ:List aB}:K σ->BG P E fl id K [] σ σ
 |more {a:List PD} {rest:List (List PD)} {σ σ1 σ2:List aB}:K σ->mD P E fl (.inr id) a σ (.bool true) σ1->BG P E fl id K rest σ1 σ2->BG P E fl id K (a::rest) σ σ2
 |stop {a:List PD} {rest:List (List PD)} {σ σ1:List aB}:K σ->mD P E fl (.inr id) a σ (.bool false) σ1->BG P E fl id K (a::rest) σ σ1
structure PR (P:Program) (E:aD) (fl id:Nat) (K:List aB->Prop) (items:List (List PD)) (σ:List aB) (R:List aB->Prop):Prop where
 ex:∃σ2,BG P E fl id K items σ σ2/\R σ2
theorem PR.nil:True:=trivial
theorem PR.cons:True:=trivial
theorem Wp.rangeFunc:True:=trivial
theorem aN.body{f:FuncId}{fn:Func}{c:Code}{args:List PD}{R:PD->List aB->Prop}(hE:E f=none)(hf:P.funcs[f]?=some fn)(hb:fn.body=some c)
  (h:Wp P E none c fl (args++List.replicate (fn.ntmps-args.length) (.aH [])) [] σ (fun r=>∃p1 σ1,fR P fl fn r=some (p1,σ1)/\R p1 σ1)):aN P E fl (.inl f) args σ R:=by
 obtain⟨r,h1,p1,σ1,h2,h3⟩:=h.ex
 exact⟨p1,σ1,.body hE hf hb h1 h2,h3⟩
end
def LH(ops:Array Oper):Bool:=(flags ops 0 ops.toList).all fun x=>x.1
theorem PV{P:Program}{call:dD}{fl:Nat}{ops:Array Oper}:∀(l:List (Bool×Oper)) (fr:List PD) (σ:List aB),l.all (fun x=>x.1)=true->mR P call fl ops l fr σ=gF P call fl ops (l.map Prod.snd) fr σ
 | [],_,_,_=>rfl
 |(free,o)::l,fr,σ,h=>by
  simp only[List.all_cons,yAr]at h
  obtain⟨h1,h2⟩:=h
  subst h1
  simp only[gF,mR,List.map_cons]
  split
  ·cases cP P call fl fr σ o.op with
   |none=>rfl
   |some q=>obtain⟨p,σ'⟩:=q;simp only;exact PV l _ _ h2
  ·exact PV l _ _ h2
theorem YJ(ops:Array Oper):∀(l:List Oper) (i:Nat),(flags ops i l).map Prod.snd=l
 | [],_=>rfl
 |o::l,i=>by simp only[flags,List.map_cons,YJ ops l (i+1)]
theorem aFH{P:Program}{call:dD}{fl:Nat}{ops:Array Oper}(hs:(EA ops&&LH ops)=true)(fr:List PD)(σ:List aB):tE P call fl ops fr σ=gF P call fl ops ops.toList fr σ:=by
 simp only[yAr]at hs
 rw[YK hs.1,PV _ _ _ hs.2,YJ]
def aI(E:aD):Prop:=∀f g args p,E f=some g->g 0 args []=some (p,[])->∀fl σ,g fl args σ=some (p,σ)
def lQ(E:aD):dD
 |_,.inl f,args,σ=>match E f with
  |some g=>match g 0 args []with
   |some (p,[])=>some (p,σ)
   |_=>none
  |none=>none
 |_,.inr _,_,_=>none
def BB(ops:Array Oper):Bool:=ops.toList.all fun o=>match o.op with
 |.box ..=>false
 |.call { callee:=.builtin .append,.. }=>false
 |.call { callee:=.builtin .copy,.. }=>false
 |_=>true
theorem LB{P:Program}{E:aD}(hU:aI E){fl dP:Nat}{fr:List PD}{σ:List aB}{op:Op}{x:PD×List aB}(hop:(match op with
 |.box ..=>false
 |.call { callee:=.builtin .append,.. }=>false
 |.call { callee:=.builtin .copy,.. }=>false
 |_=>true)=true) (hm:fM op=true) (h:cP P (lQ E) fl fr σ op=some x):cP P (gE E) dP fr σ op=some x/\x.2=σ:=by
 unfold cP at *
 cases hc:iU fr op with
 |some q=>
  obtain⟨tg,args⟩:=q
  simp only[hc]at h ⊢
  cases tg with
  |inr id=>cases h
  |inl f=>
   simp only[lQ]at h
   split at h
   ·rename_i g hg
    split at h
    ·rename_i p hp
     simp only[yAb]at h;subst h
     simp only[gE,hg]
     exact⟨hU f g args p hg hp dP σ,by trivial⟩
    ·cases h
   ·cases h
 |none=>
  simp only[hc]at h ⊢
  exfalso
  cases op with
  |box t x=>cases hop
  |call c=>
   obtain⟨callee,args,ts⟩:=c
   cases callee with
   |value f=>simp[pop,eP,dL]at h
   |invoke r m=>simp[fM]at hm
   |builtin b=>cases b<;>first|(simp[fM]at hm;done)|cases hop
  |_=>simp[fM]at hm
theorem YL{P:Program}{call call':dD}{fl:Nat}{fr:List PD}{σ:List aB}{op:Op}(hm:fM op=false):cP P call fl fr σ op=cP P call' fl fr σ op:=by
 unfold cP
 have:iU fr op=none:=by
  cases op with
  |call c=>
   obtain⟨callee,args,ts⟩:=c
   cases callee with
   |value f=>simp[fM]at hm
   |invoke r m=>rfl
   |builtin b=>rfl
  |_=>rfl
 rw[this]
theorem HF{P:Program}{E:aD}(hU:aI E){fl:Nat}{ops:Array Oper}:∀(l:List Oper) (i:Nat) (fr:List PD) (σ:List aB) (x:List PD×List aB),l.all (fun o=>match o.op with
 |.box ..=>false
 |.call { callee:=.builtin .append,.. }=>false
 |.call { callee:=.builtin .copy,.. }=>false
 |_=>true)=true->gF P (lQ E) fl ops l fr σ=some x->mR P (gE E) fl ops (flags ops i l) fr σ=some x
 | [],_,_,_,_,_,h=>h
 |o::l,i,fr,σ,x,ho,h=>by
  simp only[List.all_cons,yAr]at ho
  simp only[gF]at h
  simp only[flags,mR]
  split at h
  ·rename_i hw
   rw[if_pos hw]
   split at h
   ·rename_i p σ1 hp
    cases hm:fM o.op with
    |false=>
     rw[YL (call':=gE E) hm]at hp
     simp only[Bool.not_false,Bool.true_or,hp]
     exact HF hU l (i+1) _ _ _ ho.2 h
    |true=>
     cases vW ops i with
     |true=>
      have:=(LB hU (dP:=fl) ho.1 hm hp).1
      simp only[Bool.or_true,this]
      exact HF hU l (i+1) _ _ _ ho.2 h
     |false=>
      obtain⟨e1,e2⟩:=LB hU (dP:=max fl σ.length) ho.1 hm hp
      simp only at e2
      subst e2
      simp only[Bool.not_true,Bool.or_self,e1,List.drop_length,yAl]
      exact HF hU l (i+1) _ _ _ ho.2 h
   ·cases h
  ·rename_i hw
   rw[if_neg hw]
   exact HF hU l (i+1) _ _ _ ho.2 h
theorem aI.entry{E:aD}(hU:aI E){f:FuncId}{g:List PD->Option PD}:aI (E.add f (entry g)):=by
 intro f' g' args p hE h fl σ
 unfold aD.add at hE
 split at hE
 ·simp only[yAb]at hE;subst hE
  unfold Go.Kz.entry at h ⊢
  cases hg:g args with
  |none=>simp only[hg]at h;cases h
  |some q=>
   simp only[hg,yAb,yAc,and_true]at h
   subst h
   rfl
 ·exact hU f' g' args p hE h fl σ
theorem aI.none:aI (fun _=>Option.none):=fun _ _ _ _ h=>by cases h
theorem aI.other{E:aD}(hU:aI E){f:FuncId}{g:Nat->List PD->List aB->Option (PD×List aB)}(hg:∀args p,g 0 args []≠some (p,[])):aI (E.add f g):=by
 intro f' g' args p hE h fl σ
 unfold aD.add at hE
 split at hE
 ·simp only[yAb]at hE;subst hE
  exact absurd h (hg _ _)
 ·exact hU f' g' args p hE h fl σ
def force{α:Type}(n:Nat)(f:Nat->α):α:=match n with|0=>f 0|k+1=>f (k+1)
theorem force_eq{α:Type}(n:Nat)(f:Nat->α):force n f=f n:=by cases n<;>rfl
def LI{α:Type}:List Nat->Nat->(List Nat->α)->α
 | [],m,f=>f [m]
 |x::xs,m,f=>LI xs m fun ys=>f (x::ys)
theorem YM{α:Type}:∀(l:List Nat) (m:Nat) (f:List Nat->α),LI l m f=f (l++[m])
 | [],_,_=>rfl
 |x::xs,m,f=>by rw[LI,YM xs];rfl
def A8{α:Type}:List Oper->List Nat->(List Nat->α)->α
 | [],acc,f=>f acc
 |o::r,acc,f=>force (vY acc o) fun m=>LI acc m fun acc'=>A8 r acc' f
theorem D4{α:Type}:∀(l:List Oper) (acc:List Nat) (f:List Nat->α),A8 l acc f=f (cN l acc)
 | [],_,_=>rfl
 |o::r,acc,f=>by rw[A8,force_eq,YM,D4 r];rfl
def rN(ops:Array Oper):Bool:=A8 ops.toList [] fun ms=>
 vZ ops ms&&ops.toList.all (fun o=>!dM o.op) &&
 (List.range ops.size).all fun k=>!lC lE ops.toList k||(List.range ops.size).all fun i=>!lC gX ops.toList i||!loose ms i k
theorem G9(ops:Array Oper):rN ops=EA ops:=by rw[rN,D4];rfl
def D6(ops:Array Oper):Bool:=A8 ops.toList [] fun ms=>
 (List.range ops.size).all fun i=>!lC fM ops.toList i||lD ops.toList ms i
theorem aFI{ops:Array Oper}(h:D6 ops=true):LH ops=true:=by
 rw[D6,D4]at h
 simp only[yAn,List.mem_range,Bool.or_eq_true,Bool.not_eq_true']at h
 unfold LH
 have key:∀(l:List Oper) (i:Nat),ops.toList.drop i=l->(flags ops i l).all (fun x=>x.1)=true:=by
  intro l
  induction l with
  |nil=>intro _ _;rfl
  |cons o r ih=>
   intro i hd
   have ho:ops.toList[i]?=some o:=by
    have:=congrArg List.head? hd
    rw[List.head?_drop]at this
    simpa using this
   have hd':ops.toList.drop (i+1)=r:=by rw[<-List.drop_drop,hd];rfl
   have hi:i<ops.size:=by
    have:=(yA.1 ho).1
    simpa using this
   simp only[flags,List.all_cons,yAr,Bool.or_eq_true,Bool.not_eq_true']
   refine⟨?_,ih (i+1) hd'⟩
   have:=h i hi
   rw[lC,ho]at this
   simpa [vW]using this
 exact key _ 0 (by simp)
theorem aFJ{ops:Array Oper}(h:(rN ops&&D6 ops)=true):(EA ops&&LH ops)=true:=by
 simp only[yAr,G9]at h ⊢
 exact⟨h.1,aFI h.2⟩
section
variable{P:Program}{E:aD}{rd:Option Nat}{fl:Nat}{fr:List PD}{ms:List Nat}{σ:List aB}{Q:PO->Prop}{ops:Array Oper}
theorem Wp.K9{id:Nat}{aL:List PD}{σ1:List aB}(hs:(rN ops&&D6 ops)=true)(h:gF P (gE E) fl ops ops.toList fr σ=some (aL,σ1))(k:Q ⟨.normal,aL,ms,σ1⟩):Wp P E rd (.region id ops true) fl fr ms σ Q:=
 ⟨_,.draw (N:=0) (fun _ _=>by rw[aFH (aFJ hs)];exact LJ h),k⟩
theorem Wp.G6{id:Nat}{aL:List PD}{σ1:List aB}(hU:aI E)(hs:(rN ops&&BB ops)=true)(h:gF P (lQ E) fl ops ops.toList fr σ=some (aL,σ1))(k:Q ⟨.normal,aL,ms,σ1⟩):Wp P E rd (.region id ops true) fl fr ms σ Q:=by
 simp only[yAr,G9]at hs
 exact .draw hs.1 (HF hU _ 0 _ _ _ hs.2 h) k
end
attribute [simp] HG BH lQ
end
section
def tn{n:Nat}(b:BitVec n):Int:=(b.toNat:Int)
def Em.aFF:Em (BitVec 64):=(Em.int .u64).mA tn (fun _ _ h=>BitVec.eq_of_toNat_eq (by unfold tn at h;exact_mod_cast h))
def Em.aFG:Em (BitVec 16):=(Em.int .u16).mA tn (fun _ _ h=>BitVec.eq_of_toNat_eq (by unfold tn at h;exact_mod_cast h))
def Em.bv8:Em (BitVec 8):=(Em.int .u8).mA tn (fun _ _ h=>BitVec.eq_of_toNat_eq (by unfold tn at h;exact_mod_cast h))
@[simp] theorem aQz{b:BitVec 64}:Em.aFF.U b=.int .u64 (tn b):=rfl
@[simp] theorem aQA{b:BitVec 16}:Em.aFG.U b=.int .u16 (tn b):=rfl
@[simp] theorem aQB{b:BitVec 8}:Em.bv8.U b=.int .u8 (tn b):=rfl
section
variable{a b:BitVec 64}
end
@[simp] theorem wrap_zero(k:IntKind):k.wrap 0=0:=by cases k<;>rfl
end
section
structure SQ (P:Program) (call:dD) (fl:Nat) (ops:Array Oper) (l:List Oper) (fr:List PD) (σ:List aB) (K:List PD->List aB->Prop):Prop where
 ex:∃fr' σ',gF P call fl ops l fr σ=some (fr',σ')/\K fr' σ'
def lk:List PD->Nat->Option PD
 | [],_=>none
 |x::_,0=>some x
 |_::xs,n+1=>lk xs n
def bU(fr:List PD):Operand->Option PD
 |.tmp t=>lk fr t
 |.const v=>ofValue v
 |.func f=>some (.func f [])
 |.global g=>match wS g with
   |some ds=>some (.eF ds 0)
   |none=>none
def uI(fr:List PD):List Operand->Option (List PD)
 | []=>some []
 |x::xs=>match bU fr x,uI fr xs with
  |some p,some ps=>some (p::ps)
  |_,_=>none
def BE(fr:List PD):List (Nat×Operand)->Option (List (Nat×PD))
 | []=>some []
 |(i,x)::r=>match bU fr x,BE fr r with
  |some p,some ps=>some ((i,p)::ps)
  |_,_=>none
def xC(fr:List PD):Option Operand->Option (Option (Option PD))
 |none=>some none
 |some x=>match bU fr x with
  |some p=>some (some (some p))
  |none=>none
theorem YI:∀(fr:List PD) (t:Nat),lk fr t=fr[t]?
 | [],_=>by simp[lk]
 |_::_,0=>by simp[lk]
 |_::xs,n+1=>by simp[lk,YI xs n]
theorem dV{fr:List PD}{x:Operand}{p:PD}(h:bU fr x=some p):bB fr x=some p:=by
 cases x with
 |tmp t=>
  simp only[bU,YI]at h
  simp only[bB,yBa,h,Option.getD_some]
 |_=>exact h
theorem HC{fr:List PD}:∀ {xs:List Operand} {ps:List PD},uI fr xs=some ps->gW fr xs=some ps
 | [],_,h=>h
 |x::xs,ps,h=>by
  simp only[uI]at h
  split at h
  ·rename_i p qs h1 h2
   simp only[gW,dV h1,HC h2]
   exact h
  ·cases h
theorem PS{fr:List PD}:∀ {xs:List (Nat×Operand)} {ps:List (Nat×PD)},BE fr xs=some ps->o5 fr xs=some ps
 | [],_,h=>h
 |(i,x)::xs,ps,h=>by
  simp only[BE]at h
  split at h
  ·rename_i p qs h1 h2
   simp only[o5,dV h1,PS h2]
   exact h
  ·cases h
theorem PT{fr:List PD}{x:Option Operand}{p:Option (Option PD)}(h:xC fr x=some p):x.map (bB fr)=p:=by
 cases x with
 |none=>simpa [xC]using h
 |some x=>
  simp only[xC]at h
  split at h
  ·rename_i q hq
   simp only[yAb]at h;subst h
   show some (bB fr x)=_
   rw[dV hq]
  ·cases h
section
variable{P:Program}{E:aD}{call:dD}{rd:Option Nat}{fl:Nat}{fr aL:List PD}{ms:List Nat}{σ σ1:List aB}{Q:PO->Prop}{ops:Array Oper}{K:List PD->List aB->Prop}{l:List Oper}{dst:Option Tmp}
 {ty:TypeId} {pos:String} {edges:Array Edge} {guard:Option (Nat×Bool)} {t:TypeId} {x y:Operand} {p q r:PD}
theorem SQ.nil(h:K fr σ):SQ P call fl ops [] fr σ K:=⟨fr,σ,rfl,h⟩
theorem SQ.step{o:Oper}(hw:Region.wanted o (bI ops fr)=true)(h:cP P call fl fr σ o.op=some (p,σ1))(k:SQ P call fl ops l (bE fr o.dst p) σ1 K):SQ P call fl ops (o::l) fr σ K:=by
 obtain⟨fr',σ',h1,h2⟩:=k.ex
 exact⟨fr',σ',by simp only[gF,hw,if_true,h,h1],h2⟩
theorem SQ.pass{o:Oper}(hw:Region.wanted o (bI ops fr)=false)(hf:bE fr o.dst (.aH [])=aL)(k:SQ P call fl ops l aL σ K):SQ P call fl ops (o::l) fr σ K:=by
 subst hf
 obtain⟨fr',σ',h1,h2⟩:=k.ex
 exact⟨fr',σ',by simp only[gF,hw,yAx,if_false,h1],h2⟩
theorem o6{op:Op}(hc:iU fr op=none)(h:eP P fr op=some p):cP P call fl fr σ op=some (p,σ):=by
 unfold cP pop;rw[hc,h]
theorem tB{op:Op}(hc:iU fr op=none)(hv:eP P fr op=none)(h:dL P fl fr σ op=some (p,σ1)):cP P call fl fr σ op=some (p,σ1):=by
 unfold cP pop;rw[hc];simp only[hv];exact h
theorem SQ.move(hw:Region.wanted ⟨dst,.move x,ty,pos,edges,guard⟩ (bI ops fr)=true)(hx:bU fr x=some p)(hf:bE fr dst p=aL)(k:SQ P call fl ops l aL σ K):SQ P call fl ops (⟨dst,.move x,ty,pos,edges,guard⟩::l) fr σ K:=
 .step hw (o6 rfl (dV hx)) (hf▸k)
theorem SQ.assign(hw:Region.wanted ⟨dst,.assign x,ty,pos,edges,guard⟩ (bI ops fr)=true)(hx:bU fr x=some p)(hf:bE fr dst p=aL)(k:SQ P call fl ops l aL σ K):SQ P call fl ops (⟨dst,.assign x,ty,pos,edges,guard⟩::l) fr σ K:=
 .step hw (o6 rfl (dV hx)) (hf▸k)
theorem SQ.pick{c:Operand}{b:Bool}(hw:Region.wanted ⟨dst,.pick c x y,ty,pos,edges,guard⟩ (bI ops fr)=true)(hc:bU fr c=some (.bool b))(hx:cond b (bU fr x) (bU fr y)=some p)(hf:bE fr dst p=aL)(k:SQ P call fl ops l aL σ K) :
  SQ P call fl ops (⟨dst,.pick c x y,ty,pos,edges,guard⟩::l) fr σ K:=
 .step hw (o6 rfl (by simp only[eP,dV hc];cases b<;>exact dV hx)) (hf▸k)
theorem SQ.binOp{op:BinOp}{u:TypeId}(hw:Region.wanted ⟨dst,.binOp op t x y u,ty,pos,edges,guard⟩ (bI ops fr)=true)(hx:bU fr x=some p)(hy:bU fr y=some q)(hr:eA P op t p q=some r)(hf:bE fr dst r=aL)(k:SQ P call fl ops l aL σ K) :
  SQ P call fl ops (⟨dst,.binOp op t x y u,ty,pos,edges,guard⟩::l) fr σ K:=
 .step hw (o6 rfl (by simp only[eP,dV hx,dV hy,hr])) (hf▸k)
theorem aFE{op:BinOp}{e:TypeId}{b:Bool}{u:TypeId}(hx:bU fr x=some p)(hu:P.underlying t=some (.slice e))(hb:qQ p=some b)(ho:op=.eql\/op=.neq) :
  eP P fr (.binOp op t x (.const (.slice none 0 0)) u)=some (.bool (if op=.eql then b else !b)):=by
 have hy:bB fr (.const (.slice none 0 0))=some (.slice 0 [] .full):=rfl
 simp only[eP,dV hx,hy]
 have hn:eA P op t p (.slice 0 [] .full)=none:=by
  unfold qQ at hb
  rcases ho with rfl|rfl
  all_goals
   split at hb
   ·simp[eA,o3,lS,hu]
   ·simp[eA,o3,lS,hu]
   ·simp[eA,o3,lS,hu]
   ·cases hb
 rw[hn]
 rcases ho with rfl|rfl<;>simp[yP,hu,hb]
theorem SQ.D2{e:TypeId}{b:Bool}{u:TypeId}(hw:Region.wanted ⟨dst,.binOp .eql t x (.const (.slice none 0 0)) u,ty,pos,edges,guard⟩ (bI ops fr)=true)(hx:bU fr x=some p)(hu:P.underlying t=some (.slice e))(hb:qQ p=some b)(hf:bE fr dst (.bool b)=aL)(k:SQ P call fl ops l aL σ K) :
  SQ P call fl ops (⟨dst,.binOp .eql t x (.const (.slice none 0 0)) u,ty,pos,edges,guard⟩::l) fr σ K:=
 .step hw (o6 rfl (aFE hx hu hb (.inl rfl))) (hf▸k)
theorem SQ.G5:True:=trivial
theorem SQ.make{e:TypeId}{k1 k2:IntKind}{a b:Int}(hw:Region.wanted ⟨dst,.makeSlice t x y,ty,pos,edges,guard⟩ (bI ops fr)=true)(hx:bU fr x=some (.int k1 a))(hy:bU fr y=some (.int k2 b))(hu:P.underlying t=some (.slice e))(ha:0<=a/\0<=b)
  (hr:BC P σ t e a.toNat b.toNat=some (r,σ1)) (hf:bE fr dst r=aL) (k:SQ P call fl ops l aL σ1 K):SQ P call fl ops (⟨dst,.makeSlice t x y,ty,pos,edges,guard⟩::l) fr σ K:=
 .step hw (tB rfl rfl (by simp only[dL,dV hx,dV hy,hu,iQ,ha.1,ha.2,if_true,hr])) (hf▸k)
theorem SQ.G4:True:=trivial
theorem SQ.unOp{op:UnOp}(hw:Region.wanted ⟨dst,.unOp op t x,ty,pos,edges,guard⟩ (bI ops fr)=true)(hx:bU fr x=some p)(hr:D7 op p=some r)(hf:bE fr dst r=aL)(k:SQ P call fl ops l aL σ K) :
  SQ P call fl ops (⟨dst,.unOp op t x,ty,pos,edges,guard⟩::l) fr σ K:=
 .step hw (o6 rfl (by simp only[eP,dV hx,hr])) (hf▸k)
def LG(P:Program)(u t:TypeId)(p:PD):Option PD:=if BF u t=true then HD P u t p else HE P u t p
attribute [simp] LG
theorem SQ.convert{u:TypeId}(hw:Region.wanted ⟨dst,.convert u t x,ty,pos,edges,guard⟩ (bI ops fr)=true)(hx:bU fr x=some p)(hr:LG P u t p=some r)(hf:bE fr dst r=aL)(k:SQ P call fl ops l aL σ K) :
  SQ P call fl ops (⟨dst,.convert u t x,ty,pos,edges,guard⟩::l) fr σ K:=
 .step hw (by
  unfold LG at hr
  unfold cP pop
  simp only[iU,eP,dV hx]
  split at hr
  ·rename_i hc
   rw[if_pos hc]
   simp only[dL,dV hx,hr]
   rw[if_pos hc]
  ·rename_i hc
   rw[if_neg hc,hr]) (hf▸k)
theorem SQ.makeFunc{f:FuncId}{cap:Array Operand}{cs:List PD}(hw:Region.wanted ⟨dst,.makeFunc (.func f) #[] cap,ty,pos,edges,guard⟩ (bI ops fr)=true)(hx:uI fr cap.toList=some cs)(hf:bE fr dst (.func f cs)=aL)(k:SQ P call fl ops l aL σ K) :
  SQ P call fl ops (⟨dst,.makeFunc (.func f) #[] cap,ty,pos,edges,guard⟩::l) fr σ K:=
 .step hw (o6 rfl (by simp[eP,HC hx])) (hf▸k)
theorem SQ.slice{lo hi mx:Option Operand}{lo' hi' HB:Option (Option PD)}(hw:Region.wanted ⟨dst,.slice t x lo hi mx,ty,pos,edges,guard⟩ (bI ops fr)=true)(hx:bU fr x=some p)(h1:xC fr lo=some lo')(h2:xC fr hi=some hi')(h3:xC fr mx=some HB)
  (hr:pZ P t p lo' hi' HB=some r) (hf:bE fr dst r=aL) (k:SQ P call fl ops l aL σ K):SQ P call fl ops (⟨dst,.slice t x lo hi mx,ty,pos,edges,guard⟩::l) fr σ K:=by
 exact .step hw (o6 rfl (by simp only[eP,dV hx,PT h1,PT h2,PT h3,hr])) (hf▸k)
theorem SQ.fieldAddr{f:Nat}(hw:Region.wanted ⟨dst,.fieldAddr t x f,ty,pos,edges,guard⟩ (bI ops fr)=true)(hx:bU fr x=some p)(hr:D8 P t p f=some r)(hf:bE fr dst r=aL)(k:SQ P call fl ops l aL σ K) :
  SQ P call fl ops (⟨dst,.fieldAddr t x f,ty,pos,edges,guard⟩::l) fr σ K:=
 .step hw (o6 rfl (by simp only[eP,dV hx,hr])) (hf▸k)
theorem SQ.field:True:=trivial
theorem SQ.indexAddr(hw:Region.wanted ⟨dst,.indexAddr t x y,ty,pos,edges,guard⟩ (bI ops fr)=true)(hx:bU fr x=some p)(hy:bU fr y=some q)(hr:lT P t p q=some r)(hf:bE fr dst r=aL)(k:SQ P call fl ops l aL σ K) :
  SQ P call fl ops (⟨dst,.indexAddr t x y,ty,pos,edges,guard⟩::l) fr σ K:=
 .step hw (o6 rfl (by simp only[eP,dV hx,dV hy,hr])) (hf▸k)
theorem SQ.index(hw:Region.wanted ⟨dst,.index t x y,ty,pos,edges,guard⟩ (bI ops fr)=true)(hx:bU fr x=some p)(hy:bU fr y=some q)(hr:BD P t p q=some r)(hf:bE fr dst r=aL)(k:SQ P call fl ops l aL σ K) :
  SQ P call fl ops (⟨dst,.index t x y,ty,pos,edges,guard⟩::l) fr σ K:=
 .step hw (o6 rfl (by simp only[eP,dV hx,dV hy,hr])) (hf▸k)
theorem SQ.extract{i:Nat}{vs:List PD}(hw:Region.wanted ⟨dst,.extract x i,ty,pos,edges,guard⟩ (bI ops fr)=true)(hx:bU fr x=some (.aH vs))(hr:vs[i]?=some r)(hf:bE fr dst r=aL)(k:SQ P call fl ops l aL σ K) :
  SQ P call fl ops (⟨dst,.extract x i,ty,pos,edges,guard⟩::l) fr σ K:=
 .step hw (o6 rfl (by simp only[eP,dV hx,hr])) (hf▸k)
def PD.YG:PD->Bool
 |.ptr _ _=>true
 |.eF _ _=>true
 |_=>false
theorem SQ.aFB(hw:Region.wanted ⟨dst,.nilCheck x,ty,pos,edges,guard⟩ (bI ops fr)=true)(hx:bU fr x=some p)(hp:p.YG=true)(hf:bE fr dst p=aL)(k:SQ P call fl ops l aL σ K) :
  SQ P call fl ops (⟨dst,.nilCheck x,ty,pos,edges,guard⟩::l) fr σ K:=
 .step hw (o6 rfl (by
  simp only[eP,dV hx]
  cases p<;>first|rfl|(cases hp;done))) (hf▸k)
theorem SQ.nilCheck:True:=trivial
theorem SQ.build{parts:Array (Nat×Operand)}{ps:List (Nat×PD)}(hw:Region.wanted ⟨dst,.build t parts,ty,pos,edges,guard⟩ (bI ops fr)=true)(hx:BE fr parts.toList=some ps)(hr:D9 P t ps=some r)(hf:bE fr dst r=aL)(k:SQ P call fl ops l aL σ K) :
  SQ P call fl ops (⟨dst,.build t parts,ty,pos,edges,guard⟩::l) fr σ K:=
 .step hw (o6 rfl (by simp only[eP,PS hx,hr])) (hf▸k)
theorem SQ.builtin{b:Builtin}{args:Array Operand}{ts:Array TypeId}{ps:List PD}(hw:Region.wanted ⟨dst,.call { callee:=.builtin b,args:=args,argTypes:=ts },ty,pos,edges,guard⟩ (bI ops fr)=true)(hx:uI fr args.toList=some ps)(hr:uJ P b ts ps=some r)
  (hf:bE fr dst r=aL) (k:SQ P call fl ops l aL σ K):SQ P call fl ops (⟨dst,.call { callee:=.builtin b,args:=args,argTypes:=ts },ty,pos,edges,guard⟩::l) fr σ K:=
 .step hw (o6 rfl (by simp only[eP,HC hx,hr])) (hf▸k)
theorem SQ.load(hw:Region.wanted ⟨dst,.load t x,ty,pos,edges,guard⟩ (bI ops fr)=true)(hx:bU fr x=some p)(hr:o4 P σ t p=some r)(hf:bE fr dst r=aL)(k:SQ P call fl ops l aL σ K):SQ P call fl ops (⟨dst,.load t x,ty,pos,edges,guard⟩::l) fr σ K:=
 .step hw (tB rfl rfl (by simp only[dL,dV hx,hr])) (hf▸k)
theorem SQ.store(hw:Region.wanted ⟨dst,.store t x y,ty,pos,edges,guard⟩ (bI ops fr)=true)(hx:bU fr x=some p)(hy:bU fr y=some q)(hr:mC P fl σ t p q=some σ1)(hf:bE fr dst (.aH [])=aL)(k:SQ P call fl ops l aL σ1 K) :
  SQ P call fl ops (⟨dst,.store t x y,ty,pos,edges,guard⟩::l) fr σ K:=
 .step hw (tB rfl rfl (by simp only[dL,dV hx,dV hy,hr])) (hf▸k)
theorem SQ.alloc{p':PD}(hw:Region.wanted ⟨dst,.alloc t,ty,pos,edges,guard⟩ (bI ops fr)=true)(hx:eE P t=some p)(hp:p.cells.all PD.plain=true)(hb:boxed t p=p')(hr:σ++[.box p']=σ1){n:Nat}(hn:σ.length=n)(hf:bE fr dst (.ptr n 0)=aL)(k:SQ P call fl ops l aL σ1 K) :
  SQ P call fl ops (⟨dst,.alloc t,ty,pos,edges,guard⟩::l) fr σ K:=by
 subst hb hr hn
 exact .step hw (tB rfl rfl (by simp only[dL,hx,hp,if_true])) (hf▸k)
theorem SQ.box(hw:Region.wanted ⟨dst,.box t x,ty,pos,edges,guard⟩ (bI ops fr)=true)(hx:bU fr x=some p)(hp:p.cells.all PD.plain=true)(hr:σ++[.box p]=σ1){n:Nat}(hn:σ.length=n)(hf:bE fr dst (.ptr n 0)=aL)(k:SQ P call fl ops l aL σ1 K) :
  SQ P call fl ops (⟨dst,.box t x,ty,pos,edges,guard⟩::l) fr σ K:=by
 subst hr hn
 exact .step hw (tB rfl rfl (by simp only[dL,dV hx,hp,if_true])) (hf▸k)
theorem SQ.buildSlice{len:Nat}{parts:Array (Nat×Operand)}{ps:List (Nat×PD)}(hw:Region.wanted ⟨dst,.buildSlice t len parts,ty,pos,edges,guard⟩ (bI ops fr)=true)(hx:BE fr parts.toList=some ps)(hr:gG P t len (ps.map fun q=>(q.1,q.2.strip))=some r)
  (hf:bE fr dst r=aL) (k:SQ P call fl ops l aL σ K):SQ P call fl ops (⟨dst,.buildSlice t len parts,ty,pos,edges,guard⟩::l) fr σ K:=
 .step hw (tB rfl rfl (by simp only[dL,PS hx,hr])) (hf▸k)
theorem SQ.append(hw:Region.wanted ⟨dst,.call { callee:=.builtin .append,args:=#[x,y],argTypes:=#[t,t] },ty,pos,edges,guard⟩ (bI ops fr)=true)(hx:bU fr x=some p)(hy:bU fr y=some q)
  (hr:(if iF t fr.length=true then dS P fr.length fl σ t p q else fZ P fl σ t p q.strip)=some (r,σ1)) (hf:bE fr dst r=aL) (k:SQ P call fl ops l aL σ1 K):SQ P call fl ops (⟨dst,.call { callee:=.builtin .append,args:=#[x,y],argTypes:=#[t,t] },ty,pos,edges,guard⟩::l) fr σ K:=by
 refine .step hw (tB rfl ?_ ?_) (hf▸k)
 ·simp only[eP,gW,dV hx,dV hy,uJ]
 ·simp only[dL,gW,dV hx,dV hy,if_true]
  by_cases hm:iF t fr.length=true
  ·rw[if_pos hm]at hr
   rw[hr]
  ·rw[if_neg hm]at hr
   have:dS P fr.length fl σ t p q=none:=by unfold dS;rw[if_neg hm]
   rw[this]
   exact hr
theorem SQ.copy:True:=trivial
theorem SQ.D3{g:Operand}{args:Array Operand}{ts:Array TypeId}{f:FuncId}{cap ps:List PD}(hw:Region.wanted ⟨dst,.call { callee:=.value g,args:=args,argTypes:=ts },ty,pos,edges,guard⟩ (bI ops fr)=true)(hg:bU fr g=some (.func f cap))
  (hx:uI fr args.toList=some ps) (hr:call fl (.inl f) (ps++cap) σ=some (r,σ1)) (hf:bE fr dst r=aL) (k:SQ P call fl ops l aL σ1 K):SQ P call fl ops (⟨dst,.call { callee:=.value g,args:=args,argTypes:=ts },ty,pos,edges,guard⟩::l) fr σ K:=by
 refine .step hw ?_ (hf▸k)
 simp only[cP,iU,dV hg,HC hx,hr]
theorem aS.aK{f:FuncId}{fn:Func}{c:Code}{args fr:List PD}{p:PD}(hE:E f=none)(hf:P.funcs[f]?=some fn)(hb:fn.body=some c)(hfr:args++List.replicate (fn.ntmps-args.length) (.aH [])=fr)
  (h:Wp P E none c 0 fr [] [] (fun r=>∃p1 σ1,fR P 0 fn r=some (p1,σ1)/\p1.strip=p)):aS P E f args p:=by
 subst hfr
 exact aS.body hE hf hb h
theorem aN.aK{f:FuncId}{fn:Func}{c:Code}{args:List PD}{R:PD->List aB->Prop}(hE:E f=none)(hf:P.funcs[f]?=some fn)(hb:fn.body=some c)(hfr:args++List.replicate (fn.ntmps-args.length) (.aH [])=fr)
  (h:Wp P E none c fl fr [] σ (fun r=>∃p1 σ1,fR P fl fn r=some (p1,σ1)/\R p1 σ1)):aN P E fl (.inl f) args σ R:=by
 subst hfr
 exact aN.body hE hf hb h
theorem Wp.jQ{id:Nat}(h:SQ P (gE E) fl ops ops.toList fr σ (fun fr' σ'=>Q ⟨.normal,fr',ms,σ'⟩)):Wp P E rd (.region id ops false) fl fr ms σ Q:=by
 obtain⟨fr',σ',h1,h2⟩:=h.ex
 exact .region h1 h2
theorem Wp.aFz{id:Nat}(hU:aI E)(hs:(rN ops&&BB ops)=true)(h:SQ P (lQ E) fl ops ops.toList fr σ (fun fr' σ'=>Q ⟨.normal,fr',ms,σ'⟩)):Wp P E rd (.region id ops true) fl fr ms σ Q:=by
 obtain⟨fr',σ',h1,h2⟩:=h.ex
 exact .G6 hU hs h1 h2
theorem Wp.aFA{id:Nat}(hs:(rN ops&&D6 ops)=true)(h:SQ P (gE E) fl ops ops.toList fr σ (fun fr' σ'=>Q ⟨.normal,fr',ms,σ'⟩)):Wp P E rd (.region id ops true) fl fr ms σ Q:=by
 obtain⟨fr',σ',h1,h2⟩:=h.ex
 exact .K9 hs h1 h2
theorem BG.here:True:=trivial
theorem BG.inv:True:=trivial
structure bP (I:Nat->List PD->List aB->Prop) (m:Nat) (ms:List Nat) (Q:PO->Prop) (r:PO):Prop where
 nx:r.x=.normal->r.ms=ms/\∃m',m'<m/\I m' r.fr r.σ
 out:r.x≠.normal->Q r
theorem bP.normal{I:Nat->List PD->List aB->Prop}{m:Nat}(m':Nat)(h:m'<m)(k:I m' fr σ):bP I m ms Q ⟨.normal,fr,ms,σ⟩:=⟨fun _=>⟨rfl,m',h,k⟩,fun e=>absurd rfl e⟩
theorem bP.ret{I:Nat->List PD->List aB->Prop}{m:Nat}{ms':List Nat}(h:Q ⟨.ret,fr,ms',σ⟩):bP I m ms Q ⟨.ret,fr,ms',σ⟩:=⟨fun e=>(by cases e),fun _=>h⟩
theorem bP.exit{I:Nat->List PD->List aB->Prop}{m k:Nat}{ms':List Nat}(h:Q ⟨.exit k,fr,ms',σ⟩):bP I m ms Q ⟨.exit k,fr,ms',σ⟩:=⟨fun e=>(by cases e),fun _=>h⟩
theorem Wp.cJ{b:Code}(I:Nat->List PD->List aB->Prop)(h:∀m fr σ,I m fr σ->Wp P E rd b fl fr ms σ (bP I m ms Q)):∀m {fr σ},I m fr σ->Wp P E rd (.loop b) fl fr ms σ Q:=by
 intro m
 induction m using Nat.strongRecOn with
 |ind m ih=>
  intro fr σ hi
  refine Wp.loop ((h m fr σ hi).mono fun r hr=>⟨fun e=>?_,fun e=>hr.out e⟩)
  obtain⟨e1,m',h1,h2⟩:=hr.nx e
  rw[e1]
  exact ih m' h1 h2
end
end
section
section
variable{P:Program}{E:aD}{rd:Option Nat}{fl:Nat}{fr frA:List PD}{ms:List Nat}{σ:List aB}{Q:PO->Prop}
theorem PR.ind:True:=trivial
end
end
section
open Go.RowKit Go.ChangeShapes
theorem aE.aFC{P:Program}{E:aD}(hE:aE P E)(hP:P.follows .mixedOrders=true){f:FuncId}{b:Bool}{N:Nat}{σ1:List aB}(h:iP P E N 0 (.inl f) [] []=some (.bool b,σ1)) :
  aE P (E.add f (entry (uH Em.bool (some b)))):=by
 intro F fl f' g' args c vs p σ' hF hg hgo hs hX hv
 unfold aD.add at hg
 split at hg
 ·rename_i e
  subst e
  simp only[yAb]at hg;subst hg
  match args,hgo,hv with
  | [],hgo,hv=>
    simp only[entry,uH,yAb,yAc]at hgo
    obtain⟨rfl,rfl⟩:=hgo
    have gH:aQ c.bare vs []:=⟨hv.1,fun i v d _ h2=>by simp at h2⟩
    have:=(vX hE hP hF N).fn (c:=c.bare) h hs.bare (fun _ _ h=>h.elim) gH
    refine⟨this.1,fun m=>CallsIn.mono (this.2 m) fun e w' he=>?_⟩
    cases e with
    |returned v=>
     obtain⟨c1,rfl,rfl,hs1,nx,hvv,_⟩:=he
     have hgr:c.w.grownBy c1.w none:=⟨nx.os,nx.tape,nx.output,nx.size,fun k hk _=>nx.frame k hk (fun _ h=>h.elim)⟩
     refine⟨c.at c1.w,rfl,rfl,hs.grow hgr,Nx.grow hs hgr,?_,fun _ h=>.inl h⟩
     rw[hvv.xD]
     exact .bool b
    |panicked ch=>exact he.elim
    |outgrown=>exact he.elim
 ·exact hE hF hg hgo hs hX hv
theorem aS.calls{P:Program}{E:aD}(hE:aE P E)(hP:P.follows .mixedOrders=true)(hN:∀(f:FuncId) fn,P.funcs[f]?=some fn->(fn.name== "runtime.NumGoroutine")=false)
  {f:FuncId} {args:List PD} {vs:Array Value} {w:World} {b:Bool} (h:aS P E f args (.bool b)) (hg:Gl (.start w)) (hv:aQ (.start w) vs.toList args) :
  Calls P f vs w fun e w'=>e=.returned (.bool b)/\Below w.heap.size w w':=by
 obtain⟨p1,σ1,⟨N,hN'⟩,hp⟩:=h
 have hb:p1=.bool b:=by
  cases p1 with
  |slice n xs tok=>cases xs<;>simp[PD.strip]at hp
  |_=>simpa [PD.strip]using hp
 subst hb
 have:=aFD hE hP hN (hN' N (yAk _)) hg hv
 simpa using this
section
variable{H:Type}{enc:TypeId×Value->H}{P:Program}
theorem YH(hl:laidOutB P=true){W W':World}(hb:Below W.heap.size W W'):∀(ts:List TypeId) (vs:List Value) (ds:List (DataW H)) (ps:List MemPlace),(∀t∈ts,P.readableRec t=true/\t<P.types.size)->(∀x∈ps,x.block<W.heap.size) ->
  DataW.TrodAll enc P W 0 (fun _=>true) true ts vs ds ps->DataW.TrodAll enc P W' 0 (fun b=>decide (b<W.heap.size)) true ts vs ds ps
 | [],[],[],_,_,_,h=>h
 |t::ts,v::vs,d::ds,ps,ht,hp,h=>by
  obtain⟨p,q,h1,h2,rfl⟩:=h
  obtain⟨h3,h4⟩:=ht t (by simp)
  exact⟨p,q,Below.trod hl h3 h4 h1 hb (fun x hx=>hp x (by simp[hx])),YH hl hb ts vs ds q (fun t' h'=>ht t' (by simp[h'])) (fun x hx=>hp x (by simp[hx])) h2,rfl⟩
 | [],[],_::_,_,_,_,h=>h.elim
 | [],_::_,_,_,_,_,h=>by cases h
 |_::_,[],_,_,_,_,h=>by cases h
 |_::_,_::_,[],_,_,_,h=>h.elim
theorem aFl(hl:laidOutB P=true){f:Func}{s:ChangeSpec}{W W':World}{args:Array Value}{ds gs:List (DataW H)}{before:List MemPlace}{tb:TypeId}(hvars:s.vars=[])
  (hW:DataW.Whole enc P f.params.toList s.vars false W args.toList ds gs before) (hb:Below W.heap.size W W') (hres:f.resultTypes=#[tb]) (htb:P.underlying tb=some .bool)
  (hps:(f.params.toList.all fun t=>P.readableRec t&&decide (t<P.types.size))=true) (hs:∀ds:List (DataW H),gs=[]->ds.length=f.params.size->s.fn H (ds++gs)={ results:=[.lit (.bool true)],args:=ds }) :
  s.post enc P f false true false false W args (.bool true) W':=by
 have KV:=hW
 obtain⟨p,q,hA,hV,rfl,hfz,hnd⟩:=hW
 rw[hvars]at hV
 obtain⟨rfl,rfl⟩:gs=[]/\q=[]:=by
  cases gs with
  |nil=>exact⟨rfl,hV⟩
  |cons g r=>exact absurd hV (by intro h;cases h)
 have hlen:ds.length=f.params.size:=by
  have:∀(ts:List TypeId) (vs:List Value) (ds:List (DataW H)) (ps:List MemPlace),DataW.TrodAll enc P W 0 (fun _=>true) true ts vs ds ps->ds.length=ts.length:=by
   intro ts
   induction ts with
   |nil=>
    intro vs ds ps h
    cases vs<;>cases ds<;>first|rfl|(exact h.elim)|cases h
   |cons t ts ih=>
    intro vs ds ps h
    cases vs with
    |nil=>cases h
    |cons v vs=>
     cases ds with
     |nil=>exact h.elim
     |cons d ds=>
      obtain⟨p,q,_,h2,_⟩:=h
      simp[ih vs ds q h2]
  have:=this _ _ _ _ hA
  simpa using this
 have e:=hs ds rfl hlen
 have hlt:∀x∈p,x.block<W.heap.size:=fun x hx=>by simpa using KV.lt x (by simpa using hx)
 refine⟨ds,[],_,[],p,[],KV,?_,?_,?_,hb.frame _,fun h=>by cases h⟩
 ·rw[e,hres];exact trodAll_mk1 (shut_bool htb true)
 ·rw[e]
  exact YH hl hb _ _ _ _ (fun t ht=>by simpa using yAn.1 hps t ht) hlt hA
 ·rw[e,hvars];rfl
end
end
section
structure By (p:Prop):Prop where
 h:p
structure Fr (p:Prop):Prop where
 h:p
structure Wt (p:Prop):Prop where
 h:p
structure Ns (p:Prop):Prop where
 h:p
theorem By.i{p:Prop}(h:p):By p:=⟨h⟩
theorem Fr.i{p:Prop}(h:p):Fr p:=⟨h⟩
theorem Wt.i{p:Prop}(h:p):Wt p:=⟨h⟩
theorem Ns.i{p:Prop}(h:p):Ns p:=⟨h⟩
section
variable{P:Program}{E:aD}{call:dD}{rd:Option Nat}{fl:Nat}{fr aL:List PD}{ms:List Nat}{σ σ1:List aB}{Q:PO->Prop}{ops:Array Oper}{K:List PD->List aB->Prop}{l:List Oper}{dst:Option Tmp}
 {ty:TypeId} {pos:String} {edges:Array Edge} {guard:Option (Nat×Bool)} {t:TypeId} {x y:Operand} {p q r:PD}
theorem SL.move(hw:Wt (Region.wanted ⟨dst,.move x,ty,pos,edges,guard⟩ (bI ops fr)=true))(hx:bU fr x=some p)(hf:Fr (bE fr dst p=aL))(k:SQ P call fl ops l aL σ K):SQ P call fl ops (⟨dst,.move x,ty,pos,edges,guard⟩::l) fr σ K:=SQ.move hw.h hx hf.h k
theorem SL.assign(hw:Wt (Region.wanted ⟨dst,.assign x,ty,pos,edges,guard⟩ (bI ops fr)=true))(hx:bU fr x=some p)(hf:Fr (bE fr dst p=aL))(k:SQ P call fl ops l aL σ K):SQ P call fl ops (⟨dst,.assign x,ty,pos,edges,guard⟩::l) fr σ K:=SQ.assign hw.h hx hf.h k
theorem SL.pick{c:Operand}{b:Bool}(hw:Wt (Region.wanted ⟨dst,.pick c x y,ty,pos,edges,guard⟩ (bI ops fr)=true))(hc:bU fr c=some (.bool b))(hx:cond b (bU fr x) (bU fr y)=some p)(hf:Fr (bE fr dst p=aL))(k:SQ P call fl ops l aL σ K) :
  SQ P call fl ops (⟨dst,.pick c x y,ty,pos,edges,guard⟩::l) fr σ K:=SQ.pick hw.h hc hx hf.h k
theorem SL.binOp{op:BinOp}{u:TypeId}(hw:Wt (Region.wanted ⟨dst,.binOp op t x y u,ty,pos,edges,guard⟩ (bI ops fr)=true))(hx:bU fr x=some p)(hy:bU fr y=some q)(hr:By (eA P op t p q=some r))(hf:Fr (bE fr dst r=aL))(k:SQ P call fl ops l aL σ K) :
  SQ P call fl ops (⟨dst,.binOp op t x y u,ty,pos,edges,guard⟩::l) fr σ K:=SQ.binOp hw.h hx hy hr.h hf.h k
theorem SL.D2{e:TypeId}{b:Bool}{u:TypeId}(hw:Wt (Region.wanted ⟨dst,.binOp .eql t x (.const (.slice none 0 0)) u,ty,pos,edges,guard⟩ (bI ops fr)=true))(hx:bU fr x=some p)(hu:By (P.underlying t=some (.slice e)))(hb:By (qQ p=some b))(hf:Fr (bE fr dst (.bool b)=aL))(k:SQ P call fl ops l aL σ K) :
  SQ P call fl ops (⟨dst,.binOp .eql t x (.const (.slice none 0 0)) u,ty,pos,edges,guard⟩::l) fr σ K:=SQ.D2 hw.h hx hu.h hb.h hf.h k
theorem SL.G5:True:=trivial
theorem SL.make{e:TypeId}{k1 k2:IntKind}{a b:Int}(hw:Wt (Region.wanted ⟨dst,.makeSlice t x y,ty,pos,edges,guard⟩ (bI ops fr)=true))(hx:bU fr x=some (.int k1 a))(hy:bU fr y=some (.int k2 b))(hu:By (P.underlying t=some (.slice e)))(ha:Wt (0<=a/\0<=b))
  (hr:By (BC P σ t e a.toNat b.toNat=some (r,σ1))) (hf:Fr (bE fr dst r=aL)) (k:SQ P call fl ops l aL σ1 K):SQ P call fl ops (⟨dst,.makeSlice t x y,ty,pos,edges,guard⟩::l) fr σ K:=SQ.make hw.h hx hy hu.h ha.h hr.h hf.h k
theorem SL.G4:True:=trivial
theorem SL.unOp{op:UnOp}(hw:Wt (Region.wanted ⟨dst,.unOp op t x,ty,pos,edges,guard⟩ (bI ops fr)=true))(hx:bU fr x=some p)(hr:By (D7 op p=some r))(hf:Fr (bE fr dst r=aL))(k:SQ P call fl ops l aL σ K) :
  SQ P call fl ops (⟨dst,.unOp op t x,ty,pos,edges,guard⟩::l) fr σ K:=SQ.unOp hw.h hx hr.h hf.h k
theorem SL.convert{u:TypeId}(hw:Wt (Region.wanted ⟨dst,.convert u t x,ty,pos,edges,guard⟩ (bI ops fr)=true))(hx:bU fr x=some p)(hr:By (LG P u t p=some r))(hf:Fr (bE fr dst r=aL))(k:SQ P call fl ops l aL σ K) :
  SQ P call fl ops (⟨dst,.convert u t x,ty,pos,edges,guard⟩::l) fr σ K:=SQ.convert hw.h hx hr.h hf.h k
theorem SL.makeFunc{f:FuncId}{cap:Array Operand}{cs:List PD}(hw:Wt (Region.wanted ⟨dst,.makeFunc (.func f) #[] cap,ty,pos,edges,guard⟩ (bI ops fr)=true))(hx:uI fr cap.toList=some cs)(hf:Fr (bE fr dst (.func f cs)=aL))(k:SQ P call fl ops l aL σ K) :
  SQ P call fl ops (⟨dst,.makeFunc (.func f) #[] cap,ty,pos,edges,guard⟩::l) fr σ K:=SQ.makeFunc hw.h hx hf.h k
theorem SL.slice{lo hi mx:Option Operand}{lo' hi' HB:Option (Option PD)}(hw:Wt (Region.wanted ⟨dst,.slice t x lo hi mx,ty,pos,edges,guard⟩ (bI ops fr)=true))(hx:bU fr x=some p)(h1:xC fr lo=some lo')(h2:xC fr hi=some hi')(h3:xC fr mx=some HB)
  (hr:By (pZ P t p lo' hi' HB=some r)) (hf:Fr (bE fr dst r=aL)) (k:SQ P call fl ops l aL σ K):SQ P call fl ops (⟨dst,.slice t x lo hi mx,ty,pos,edges,guard⟩::l) fr σ K:=SQ.slice hw.h hx h1 h2 h3 hr.h hf.h k
theorem SL.fieldAddr{f:Nat}(hw:Wt (Region.wanted ⟨dst,.fieldAddr t x f,ty,pos,edges,guard⟩ (bI ops fr)=true))(hx:bU fr x=some p)(hr:By (D8 P t p f=some r))(hf:Fr (bE fr dst r=aL))(k:SQ P call fl ops l aL σ K) :
  SQ P call fl ops (⟨dst,.fieldAddr t x f,ty,pos,edges,guard⟩::l) fr σ K:=SQ.fieldAddr hw.h hx hr.h hf.h k
theorem SL.field:True:=trivial
theorem SL.indexAddr(hw:Wt (Region.wanted ⟨dst,.indexAddr t x y,ty,pos,edges,guard⟩ (bI ops fr)=true))(hx:bU fr x=some p)(hy:bU fr y=some q)(hr:By (lT P t p q=some r))(hf:Fr (bE fr dst r=aL))(k:SQ P call fl ops l aL σ K) :
  SQ P call fl ops (⟨dst,.indexAddr t x y,ty,pos,edges,guard⟩::l) fr σ K:=SQ.indexAddr hw.h hx hy hr.h hf.h k
theorem SL.index(hw:Wt (Region.wanted ⟨dst,.index t x y,ty,pos,edges,guard⟩ (bI ops fr)=true))(hx:bU fr x=some p)(hy:bU fr y=some q)(hr:By (BD P t p q=some r))(hf:Fr (bE fr dst r=aL))(k:SQ P call fl ops l aL σ K) :
  SQ P call fl ops (⟨dst,.index t x y,ty,pos,edges,guard⟩::l) fr σ K:=SQ.index hw.h hx hy hr.h hf.h k
theorem SL.extract{i:Nat}{vs:List PD}(hw:Wt (Region.wanted ⟨dst,.extract x i,ty,pos,edges,guard⟩ (bI ops fr)=true))(hx:bU fr x=some (.aH vs))(hr:vs[i]?=some r)(hf:Fr (bE fr dst r=aL))(k:SQ P call fl ops l aL σ K) :
  SQ P call fl ops (⟨dst,.extract x i,ty,pos,edges,guard⟩::l) fr σ K:=SQ.extract hw.h hx hr hf.h k
theorem SL.nilCheck(hw:Wt (Region.wanted ⟨dst,.nilCheck x,ty,pos,edges,guard⟩ (bI ops fr)=true))(hx:bU fr x=some p)(hp:Wt (p.YG=true))(hf:Fr (bE fr dst p=aL))(k:SQ P call fl ops l aL σ K) :
  SQ P call fl ops (⟨dst,.nilCheck x,ty,pos,edges,guard⟩::l) fr σ K:=SQ.aFB hw.h hx hp.h hf.h k
theorem SL.build{parts:Array (Nat×Operand)}{ps:List (Nat×PD)}(hw:Wt (Region.wanted ⟨dst,.build t parts,ty,pos,edges,guard⟩ (bI ops fr)=true))(hx:BE fr parts.toList=some ps)(hr:By (D9 P t ps=some r))(hf:Fr (bE fr dst r=aL))(k:SQ P call fl ops l aL σ K) :
  SQ P call fl ops (⟨dst,.build t parts,ty,pos,edges,guard⟩::l) fr σ K:=SQ.build hw.h hx hr.h hf.h k
theorem SL.builtin{b:Builtin}{args:Array Operand}{ts:Array TypeId}{ps:List PD}(hw:Wt (Region.wanted ⟨dst,.call { callee:=.builtin b,args:=args,argTypes:=ts },ty,pos,edges,guard⟩ (bI ops fr)=true))(hx:uI fr args.toList=some ps)(hr:By (uJ P b ts ps=some r))
  (hf:Fr (bE fr dst r=aL)) (k:SQ P call fl ops l aL σ K):SQ P call fl ops (⟨dst,.call { callee:=.builtin b,args:=args,argTypes:=ts },ty,pos,edges,guard⟩::l) fr σ K:=SQ.builtin hw.h hx hr.h hf.h k
theorem SL.load(hw:Wt (Region.wanted ⟨dst,.load t x,ty,pos,edges,guard⟩ (bI ops fr)=true))(hx:bU fr x=some p)(hr:By (o4 P σ t p=some r))(hf:Fr (bE fr dst r=aL))(k:SQ P call fl ops l aL σ K):SQ P call fl ops (⟨dst,.load t x,ty,pos,edges,guard⟩::l) fr σ K:=SQ.load hw.h hx hr.h hf.h k
theorem SL.store(hw:Wt (Region.wanted ⟨dst,.store t x y,ty,pos,edges,guard⟩ (bI ops fr)=true))(hx:bU fr x=some p)(hy:bU fr y=some q)(hr:By (mC P fl σ t p q=some σ1))(hf:Fr (bE fr dst (.aH [])=aL))(k:SQ P call fl ops l aL σ1 K) :
  SQ P call fl ops (⟨dst,.store t x y,ty,pos,edges,guard⟩::l) fr σ K:=SQ.store hw.h hx hy hr.h hf.h k
theorem SL.alloc{p':PD}(hw:Wt (Region.wanted ⟨dst,.alloc t,ty,pos,edges,guard⟩ (bI ops fr)=true))(hx:By (eE P t=some p))(hp:p.cells.all PD.plain=true)(hb:By (boxed t p=p'))(hr:Ns (σ++[.box p']=σ1)){n:Nat}(hn:Ns (σ.length=n))(hf:Fr (bE fr dst (.ptr n 0)=aL))(k:SQ P call fl ops l aL σ1 K) :
  SQ P call fl ops (⟨dst,.alloc t,ty,pos,edges,guard⟩::l) fr σ K:=SQ.alloc hw.h hx.h hp hb.h hr.h hn.h hf.h k
theorem SL.box(hw:Wt (Region.wanted ⟨dst,.box t x,ty,pos,edges,guard⟩ (bI ops fr)=true))(hx:bU fr x=some p)(hp:p.cells.all PD.plain=true)(hr:Ns (σ++[.box p]=σ1)){n:Nat}(hn:Ns (σ.length=n))(hf:Fr (bE fr dst (.ptr n 0)=aL))(k:SQ P call fl ops l aL σ1 K) :
  SQ P call fl ops (⟨dst,.box t x,ty,pos,edges,guard⟩::l) fr σ K:=SQ.box hw.h hx hp hr.h hn.h hf.h k
theorem SL.buildSlice{len:Nat}{parts:Array (Nat×Operand)}{ps:List (Nat×PD)}(hw:Wt (Region.wanted ⟨dst,.buildSlice t len parts,ty,pos,edges,guard⟩ (bI ops fr)=true))(hx:BE fr parts.toList=some ps)(hr:By (gG P t len (ps.map fun q=>(q.1,q.2.strip))=some r))
  (hf:Fr (bE fr dst r=aL)) (k:SQ P call fl ops l aL σ K):SQ P call fl ops (⟨dst,.buildSlice t len parts,ty,pos,edges,guard⟩::l) fr σ K:=SQ.buildSlice hw.h hx hr.h hf.h k
theorem SL.append(hw:Wt (Region.wanted ⟨dst,.call { callee:=.builtin .append,args:=#[x,y],argTypes:=#[t,t] },ty,pos,edges,guard⟩ (bI ops fr)=true))(hx:bU fr x=some p)(hy:bU fr y=some q)
  (hr:By ((if iF t fr.length=true then dS P fr.length fl σ t p q else fZ P fl σ t p q.strip)=some (r,σ1))) (hf:Fr (bE fr dst r=aL)) (k:SQ P call fl ops l aL σ1 K):SQ P call fl ops (⟨dst,.call { callee:=.builtin .append,args:=#[x,y],argTypes:=#[t,t] },ty,pos,edges,guard⟩::l) fr σ K:=SQ.append hw.h hx hy hr.h hf.h k
theorem SL.copy:True:=trivial
theorem SL.D3{g:Operand}{args:Array Operand}{ts:Array TypeId}{f:FuncId}{cap ps:List PD}(hw:Wt (Region.wanted ⟨dst,.call { callee:=.value g,args:=args,argTypes:=ts },ty,pos,edges,guard⟩ (bI ops fr)=true))(hg:bU fr g=some (.func f cap))
  (hx:uI fr args.toList=some ps) (hr:By (call fl (.inl f) (ps++cap) σ=some (r,σ1))) (hf:Fr (bE fr dst r=aL)) (k:SQ P call fl ops l aL σ1 K):SQ P call fl ops (⟨dst,.call { callee:=.value g,args:=args,argTypes:=ts },ty,pos,edges,guard⟩::l) fr σ K:=SQ.D3 hw.h hg hx hr.h hf.h k
theorem SL.pass{op:Op}{g:Nat×Bool}(hw:Wt (Region.wanted ⟨dst,op,ty,pos,edges,some g⟩ (bI ops fr)=false))(hf:Fr (bE fr dst (.aH [])=aL))(k:SQ P call fl ops l aL σ K):SQ P call fl ops (⟨dst,op,ty,pos,edges,some g⟩::l) fr σ K:=
 SQ.pass (o:=⟨dst,op,ty,pos,edges,some g⟩) hw.h hf.h k
def yM(ops:Array Oper):Bool:=ops.toList.all fun o=>match o.op with
 |.call { callee:=.value (.tmp _),.. }=>false
 |_=>true
theorem WL.X5{id:Nat}{y:Code}(_hs:yM ops=true)(h:SQ P (gE E) fl ops ops.toList fr σ (fun fr' σ'=>Wp P E rd y fl fr' ms σ' Q)):Wp P E rd (.seq (.region id ops false) y) fl fr ms σ Q:=by
 obtain⟨fr',σ',h1,h2⟩:=h.ex
 exact .seq (.region h1 (.normal h2))
theorem WL.G6{id:Nat}{y:Code}(hU:aI E)(_hd:yM ops=true)(hs:(rN ops&&BB ops)=true)(h:SQ P (lQ E) fl ops ops.toList fr σ (fun fr' σ'=>Wp P E rd y fl fr' ms σ' Q)):Wp P E rd (.seq (.region id ops true) y) fl fr ms σ Q:=by
 obtain⟨fr',σ',h1,h2⟩:=h.ex
 exact .seq (.G6 hU hs h1 (.normal h2))
theorem WL.K9:True:=trivial
theorem WL.PM{id:Nat}(_hs:yM ops=true)(h:SQ P (gE E) fl ops ops.toList fr σ (fun fr' σ'=>Q ⟨.normal,fr',ms,σ'⟩)):Wp P E rd (.region id ops false) fl fr ms σ Q:=.jQ h
theorem WL.skip:True:=trivial
theorem WL.ct{g:Operand}{x y:Code}(hg:bU fr g=some (.bool true))(h1:Wp P E rd x fl fr ms σ Q):Wp P E rd (.cond g x y) fl fr ms σ Q:=.cond_true (dV hg) h1
theorem WL.cf{g:Operand}{x y:Code}(hg:bU fr g=some (.bool false))(h1:Wp P E rd y fl fr ms σ Q):Wp P E rd (.cond g x y) fl fr ms σ Q:=.cond_false (dV hg) h1
theorem cW{c:Prop}{σ σ':List aB}{fr:List PD}{A:(Nat->PD)->List PD}(hc:c)(h:fr=A (fun n=>fr.getD n (.aH [])))(hs:σ=σ'):∃g:Nat->PD,c/\fr=A g/\σ=σ':=⟨_,hc,h,hs⟩
end
theorem bW{c:Prop}{σ σ':List aB}{fr:List PD}{A:(Nat->PD)->List PD}(hc:c)(h:fr=A (fun n=>fr.getD n (.aH [])):=by(first|rfl|(simp[];repeat(first|rfl|(apply And.intro)))|(simp[];done)))(hs:σ=σ':=by(first|rfl|(simp[];repeat(first|rfl|(apply And.intro)))|(simp[];done))):∃g:Nat->PD,c/\fr=A g/\σ=σ':=⟨_,hc,h,hs⟩
end
theorem WL.X6{P:Program}{E:aD}{rd:Option Nat}{fl:Nat}{fr:List PD}{ms:List Nat}{σ:List aB}{Q:PO->Prop}{ops:Array Oper}{id:Nat}(hU:aI E)(_hd:yM ops=true)(hs:(rN ops&&BB ops)=true)(h:SQ P (lQ E) fl ops ops.toList fr σ (fun fr' σ'=>Q ⟨.normal,fr',ms,σ'⟩)) :
  Wp P E rd (.region id ops true) fl fr ms σ Q:=.aFz hU hs h
theorem WL.X7{P:Program}{E:aD}{rd:Option Nat}{fl:Nat}{fr:List PD}{ms:List Nat}{σ:List aB}{Q:PO->Prop}{ops:Array Oper}{id:Nat}(_hd:yM ops=true)(hs:(rN ops&&D6 ops)=true)(h:SQ P (gE E) fl ops ops.toList fr σ (fun fr' σ'=>Q ⟨.normal,fr',ms,σ'⟩)) :
  Wp P E rd (.region id ops true) fl fr ms σ Q:=.aFA hs h
section
inductive CK where
 |b
 |i (k:IntKind)
 |s
def xA(c:Bool):Option Bool->Option Bool
 |some d=>some (c&&d)
 |none=>none
def kS:List CK->List PD->List PD->Option Bool
 | [],[],[]=>some true
 |.b::ks,.bool a::xs,.bool b::ys=>xA (decide (a=b)) (kS ks xs ys)
 |.i k::ks,.int k1 a::xs,.int k2 b::ys=>if k1=k/\k2=k then xA (decide (a=b)) (kS ks xs ys)else none
 |.s::ks,.str a::xs,.str b::ys=>xA (decide (a=b)) (kS ks xs ys)
 |_,_,_=>none
def HA(pl:TypeId->Option (List CK))(P:Program):Nat->List Field->Option (List CK)
 |_,[]=>some []
 |off,f::fs=>if f.name= "_" \/ f.offset≠off then none else
  match pl f.type,bT P f.type with
  |some ks,some n=>if ks.length=n/\0<n then(match HA pl P (off+n) fs with|some r=>some (ks++r)|none=>none)else none
  |_,_=>none
def qP(P:Program):Nat->TypeId->Option (List CK)
 |0,_=>none
 |d+1,t=>match P.underlying t with
  |some .bool=>some [.b]
  |some (.int k)=>some [.i k]
  |some .string=>some [.s]
  |some (.struct fs)=>if P.stoodInHeld t then none else HA (qP P d) P 0 fs.toList
  |some (.array len e)=>match qP P d e,bT P e with
   |some ks,some n=>if ks.length=n/\0<n then some (List.replicate len ks).flatten else none
   |_,_=>none
  |_=>none
def BA(P:Program)(t:TypeId)(x:PD)(xs:List PD):Prop:=(fN P t=some true/\x=.agg xs)\/(fN P t=some false/\xs=[x])
theorem YD:∀ {xs ys:List PD} {b:Bool},kS [] xs ys=some b->b=true
 | [],[],b,h=>by simp only[kS,yAb]at h;exact h.symm
 | [],_::_,_,h=>by simp[kS]at h
 |_::_,_,_,h=>by simp[kS]at h
theorem PN:∀(ks r:List CK) (xs ys:List PD) (b:Bool),kS (ks++r) xs ys=some b ->
  ∃b1 b2,kS ks (xs.take ks.length) (ys.take ks.length)=some b1/\kS r (xs.drop ks.length) (ys.drop ks.length)=some b2/\b=(b1&&b2)/\ks.length<=xs.length/\ks.length<=ys.length
 | [],r,xs,ys,b,h=>⟨true,b,rfl,h,by simp,by simp,by simp⟩
 |k::ks,r,xs,ys,b,h=>by
  have key:∀(c:Bool) (us vs:List PD),xA c (kS (ks++r) us vs)=some b->∃b1 b2,xA c (kS ks (us.take ks.length) (vs.take ks.length))=some b1/\kS r (us.drop ks.length) (vs.drop ks.length)=some b2/\b=(b1&&b2)/\ks.length<=us.length/\ks.length<=vs.length:=by
   intro c us vs hc
   cases h1:kS (ks++r) us vs with
   |none=>rw[h1]at hc;cases hc
   |some d=>
    rw[h1]at hc
    simp only[xA,yAb]at hc
    obtain⟨b1,b2,e1,e2,e3,e4,e5⟩:=PN ks r us vs d h1
    exact⟨c&&b1,b2,by rw[e1];rfl,e2,by rw[<-hc,e3,Bool.and_assoc],e4,e5⟩
  match k,xs,ys,h with
  |.b,.bool a::xs,.bool a'::ys,h=>
    obtain⟨b1,b2,e1,e2,e3,e4,e5⟩:=key _ xs ys h
    exact⟨b1,b2,e1,e2,e3,by simpa using e4,by simpa using e5⟩
  |.i k,.int k1 a::xs,.int k2 a'::ys,h=>
    simp only[List.cons_append,kS]at h
    split at h
    ·rename_i hk
     obtain⟨b1,b2,e1,e2,e3,e4,e5⟩:=key _ xs ys h
     exact⟨b1,b2,by simpa only[List.length_cons,List.take_succ_cons,kS,if_pos hk]using e1,e2,e3,by simpa using e4,by simpa using e5⟩
    ·cases h
  |.s,.str a::xs,.str a'::ys,h=>
    obtain⟨b1,b2,e1,e2,e3,e4,e5⟩:=key _ xs ys h
    exact⟨b1,b2,e1,e2,e3,by simpa using e4,by simpa using e5⟩
section
variable{P:Program}
theorem aFy{d:Nat}{t:TypeId}{ks:List CK}(h:qP P d t=some ks):(fN P t=some true)\/(fN P t=some false/\ks.length=1):=by
 cases d with
 |zero=>cases h
 |succ d=>
  unfold qP at h
  unfold fN
  split at h<;>rename_i hu<;>try simp only[hu]
  ·right;simp only[yAb]at h;subst h;exact⟨trivial,rfl⟩
  ·right;simp only[yAb]at h;subst h;exact⟨trivial,rfl⟩
  ·right;simp only[yAb]at h;subst h;exact⟨trivial,rfl⟩
  ·left;trivial
  ·left;trivial
  ·cases h
theorem YE{d:Nat}{t:TypeId}{ks:List CK}(h:qP P d t=some ks)(hs:bT P t=some ks.length){xs:List PD}{off:Nat}(hl:off+ks.length<=xs.length):∃x,nQ P t xs off=some x/\BA P t x ((xs.drop off).take ks.length):=by
 rcases aFy h with ha | ⟨ha,h1⟩
 ·exact⟨_,by simp only[nQ,ha,hs,hl,if_true],.inl ⟨ha,rfl⟩⟩
 ·rw[h1]at hl
  have hlt:off<xs.length:=by omega
  refine⟨xs[off],by simp only[nQ,ha,hs,yAh hlt],.inr ⟨ha,?_⟩⟩
  rw[h1,yAq hlt]
  rfl
theorem LF:∀(d:Nat) (t:TypeId) (ks:List CK) (x y:PD) (xs ys:List PD) (b:Bool),qP P d t=some ks->BA P t x xs->BA P t y ys->kS ks xs ys=some b->lS P d t x y=some b
 |0,_,_,_,_,_,_,_,h,_,_,_=>by cases h
 |d+1,t,ks,x,y,xs,ys,b,h,hx,hy,hc=>by
  unfold qP at h
  unfold lS
  have fin:∀ {z:PD} {zs:List PD},BA P t z zs->fN P t=some true->z=.agg zs:=fun hz ha=>by
   rcases hz with⟨_,e⟩ | ⟨e,_⟩
   ·exact e
   ·rw[ha]at e;cases e
  have one:∀ {z:PD} {zs:List PD},BA P t z zs->fN P t=some false->zs=[z]:=fun hz ha=>by
   rcases hz with⟨e,_⟩ | ⟨_,e⟩
   ·rw[ha]at e;cases e
   ·exact e
  split at h<;>rename_i hu<;>try simp only[hu]
  ·simp only[yAb]at h;subst h
   have ha:fN P t=some false:=by simp only[fN,hu]
   rw[one hx ha,one hy ha]at hc
   cases x<;>cases y<;>simp only[kS,reduceCtorEq]at hc ⊢
   simpa [xA,BEq.beq]using hc
  ·rename_i k
   simp only[yAb]at h;subst h
   have ha:fN P t=some false:=by simp only[fN,hu]
   rw[one hx ha,one hy ha]at hc
   cases x<;>cases y<;>simp only[kS,reduceCtorEq]at hc ⊢
   split at hc
   ·rename_i hk
    rw[if_pos (hk.1.trans hk.2.symm)]
    simpa [xA,BEq.beq]using hc
   ·cases hc
  ·simp only[yAb]at h;subst h
   have ha:fN P t=some false:=by simp only[fN,hu]
   rw[one hx ha,one hy ha]at hc
   cases x<;>cases y<;>simp only[kS,reduceCtorEq]at hc ⊢
   simp only[xA,Bool.and_true,yAb]at hc
   rw[<-hc];congr 1;rw[Bool.eq_iff_iff];simp
  ·rename_i fs
   split at h
   ·cases h
   ·rename_i hst
    have ha:fN P t=some true:=by simp only[fN,hu]
    obtain rfl:=fin hx ha
    obtain rfl:=fin hy ha
    simp only[hst,yAx,if_false]
    have key:∀(fs:List Field) (off:Nat) (r:List CK) (b:Bool),HA (qP P d) P off fs=some r->kS r (xs.drop off) (ys.drop off)=some b->xB (lS P d) P xs ys fs=some b:=by
     intro fs
     induction fs with
     |nil=>
      intro off r b hr hb
      simp only[HA,yAb]at hr
      subst hr
      unfold xB
      rw[YD hb]
     |cons f fs ih=>
      intro off r b hr hb
      simp only[HA]at hr
      split at hr
      ·cases hr
      ·rename_i hn
       have iO:¬f.name= "_" := fun e=>hn (.inl e)
       have hn2:f.offset=off:=by
        rcases Nat.decEq f.offset off with e|e
        ·exact absurd (.inr e) hn
        ·exact e
       split at hr
       ·rename_i ks n h1 h2
        split at hr
        ·rename_i hlen
         split at hr
         ·rename_i r' h3
          simp only[yAb]at hr
          subst hr
          obtain⟨b1,b2,e1,e2,e3,e4,e5⟩:=PN _ _ _ _ _ hb
          obtain⟨hlen,hpos⟩:=hlen
          have hpart:∀ {zs:List PD},ks.length<=(zs.drop off).length->∃x,nQ P f.type zs off=some x/\BA P f.type x ((zs.drop off).take ks.length):=by
           intro zs hz
           simp only[List.length_drop]at hz
           exact YE h1 (by rw[h2,hlen]) (by omega)
          obtain⟨x1,p1,c1⟩:=hpart e4
          obtain⟨y1,p2,c2⟩:=hpart e5
          have q:=LF d f.type ks x1 y1 _ _ b1 h1 c1 c2 e1
          unfold xB
          rw[if_neg iO,hn2]
          simp only[p1,p2,q]
          rw[List.drop_drop,List.drop_drop,hlen]at e2
          have q2:=ih (off+n) r' b2 h3 e2
          cases b1 with
          |true=>simpa [e3]using q2
          |false=>simp[e3]
         ·cases hr
        ·cases hr
       ·cases hr
    exact key fs.toList 0 ks b h (by simpa using hc)
  ·rename_i len e
   split at h
   ·rename_i ks' n h1 h2
    split at h
    ·rename_i hlen
     simp only[yAb]at h
     subst h
     have ha:fN P t=some true:=by simp only[fN,hu]
     obtain rfl:=fin hx ha
     obtain rfl:=fin hy ha
     simp only[h2]
     have key:∀(m i:Nat) (b:Bool),kS (List.replicate m ks').flatten (xs.drop (i*n)) (ys.drop (i*n))=some b->yO (lS P d e) P e n xs ys i m=some b:=by
      intro m
      induction m with
      |zero=>
       intro i b hb
       unfold yO
       simp only[List.replicate_zero,List.flatten_nil]at hb
       rw[YD hb]
      |succ m ih=>
       intro i b hb
       rw[List.replicate_succ,List.flatten_cons]at hb
       obtain⟨b1,b2,e1,e2,e3,e4,e5⟩:=PN _ _ _ _ _ hb
       obtain⟨hlen,hpos⟩:=hlen
       have hpart:∀ {zs:List PD},ks'.length<=(zs.drop (i*n)).length->∃x,nQ P e zs (i*n)=some x/\BA P e x ((zs.drop (i*n)).take ks'.length):=by
        intro zs hz
        simp only[List.length_drop]at hz
        exact YE h1 (by rw[h2,hlen]) (by omega)
       obtain⟨x1,p1,c1⟩:=hpart e4
       obtain⟨y1,p2,c2⟩:=hpart e5
       have q:=LF d e ks' x1 y1 _ _ b1 h1 c1 c2 e1
       unfold yO
       simp only[p1,p2,q]
       rw[List.drop_drop,List.drop_drop,hlen,<-Nat.succ_mul]at e2
       have q2:=ih (i+1) b2 e2
       cases b1 with
       |true=>simpa [e3]using q2
       |false=>simp[e3]
     exact key len 0 b (by simpa using hc)
    ·cases h
   ·cases h
  ·cases h
theorem PQ{t:TypeId}{ks:List CK}{xs ys:List PD}{b:Bool}(hg:P.eqGuardType P.depth t=false)(h:qP P 12 t=some ks)(ha:fN P t=some true)(hc:kS ks xs ys=some b) :
  eA P .eql t (.agg xs) (.agg ys)=some (.bool b):=by
 have:=LF 12 t ks _ _ _ _ b h (.inl ⟨ha,rfl⟩) (.inl ⟨ha,rfl⟩) hc
 simp only[eA,o3,hg,yAx,if_false,this]
theorem YF{t:TypeId}{ks:List CK}{xs ys:List PD}{b:Bool}(hg:P.eqGuardType P.depth t=false)(h:qP P 12 t=some ks)(ha:fN P t=some true)(hc:kS ks xs ys=some b) :
  eA P .neq t (.agg xs) (.agg ys)=some (.bool (!b)):=by
 have:=LF 12 t ks _ _ _ _ b h (.inl ⟨ha,rfl⟩) (.inl ⟨ha,rfl⟩) hc
 simp only[eA,o3,hg,yAx,if_false,this]
end
end
section
section
variable{α:Type}{e:Em α}{k:Nat}{tok:Tok}
def Em.LD(e:Em α):List PD->Option (List α)
 | []=>some []
 |p::ps=>match e.dec p,e.LD ps with
  |some x,some xs=>some (x::xs)
  |_,_=>none
@[simp] theorem aQx:e.LD []=some []:=rfl
@[simp] theorem aQy{p:PD}{ps:List PD}:e.LD (p::ps)=(match e.dec p,e.LD ps with|some x,some xs=>some (x::xs)|_,_=>none):=rfl
end
end
section
open Go.RowKit
def yN(pl:TypeId->Bool)(P:Program):Nat->List Field->Option Nat
 |off,[]=>some off
 |off,f::fs=>if f.offset=off/\pl f.type=true then yN pl P (off+P.cellsOf f.type) fs else none
def qO(P:Program):Nat->TypeId->Bool
 |0,_=>false
 |d+1,t=>match P.underlying t with
  |some .bool|some (.int _)|some .string=>P.cellsOf t==1
  |some (.slice e)=>P.cellsOf t==1&&qO P d e&&decide (0<P.cellsOf e)
  |some (.struct fs)=>yN (qO P d) P 0 fs.toList==some (P.cellsOf t)
  |some (.array n e)=>qO P d e&&P.cellsOf t==n*P.cellsOf e
  |_=>false
def tA(T:TypeId->List PD->Prop):List Field->List PD->Prop
 | [],ps=>ps=[]
 |f::fs,ps=>∃a b,ps=a++b/\T f.type a/\tA T fs b
def kZ(P:Program)(t:TypeId)(ps:List PD):PD:=match fN P t with
 |some true=>.agg ps
 |_=>ps.headD (.aH [])
def Typed(P:Program):Nat->TypeId->List PD->Prop
 |0,_,_=>False
 |d+1,t,ps=>match P.underlying t with
  |some .bool=>∃b,ps=[.bool b]
  |some (.int k)=>∃n,ps=[.int k n]/\(Lit.int k n).wf=true
  |some .string=>∃s,ps=[.str s]/\s.length<=maxLen
  |some (.slice e)=>∃xs:List (List PD),xs.length<=maxLen/\(∀x∈xs,Typed P d e x)/\ps=[.slice (sz (P.cellsOf e) xs) (xs.map (kZ P e)) .any]
  |some (.struct fs)=>tA (Typed P d) fs.toList ps
  |some (.array n e)=>∃xs:List (List PD),xs.length=n/\(∀x∈xs,Typed P d e x)/\ps=xs.flatten
  |_=>False
theorem tA.length{P:Program}{d:Nat}(ih:∀t ps,qO P d t=true->Typed P d t ps->ps.length=P.cellsOf t):∀(fs:List Field) (off n:Nat) (ps:List PD),yN (qO P d) P off fs=some n->tA (Typed P d) fs ps->off+ps.length=n
 | [],off,n,ps,h,ht=>by
   simp only[yN,yAb]at h
   simp only[tA]at ht
   subst ht h
   rfl
 |f::fs,off,n,ps,h,ht=>by
  simp only[yN]at h
  split at h
  ·rename_i hf
   obtain⟨a,b,rfl,ha,hb⟩:=ht
   have h1:=ih _ _ hf.2 ha
   have h2:=tA.length ih fs _ n b h hb
   simp only[yAa]
   omega
  ·cases h
theorem Typed.length{P:Program}:∀(d:Nat) (t:TypeId) (ps:List PD),qO P d t=true->Typed P d t ps->ps.length=P.cellsOf t
 |0,_,_,h,_=>by cases h
 |d+1,t,ps,h,ht=>by
  unfold qO at h
  unfold Typed at ht
  split at h<;>rename_i hu<;>try simp only[hu]at ht
  ·obtain⟨b,rfl⟩:=ht;simp at h;simp[h]
  ·obtain⟨b,rfl,_⟩:=ht;simp at h;simp[h]
  ·obtain⟨b,rfl,_⟩:=ht;simp at h;simp[h]
  ·obtain⟨xs,_,_,rfl⟩:=ht;simp at h;simp[h]
  ·simp only[beq_iff_eq]at h
   have:=tA.length (Typed.length d) _ 0 _ ps h ht
   omega
  ·rename_i n e
   simp only[yAr,beq_iff_eq]at h
   obtain⟨xs,h1,h2,rfl⟩:=ht
   rw[h.2,<-h1]
   have key:∀(xs:List (List PD)),(∀x∈xs,Typed P d e x)->xs.flatten.length=xs.length*P.cellsOf e:=by
    intro xs
    induction xs with
    |nil=>intro _;simp
    |cons x xs ih=>
     intro hx
     rw[List.flatten_cons,yAa,Typed.length d e x h.1 (hx x (by simp)),ih (fun y hy=>hx y (by simp[hy])),List.length_cons,Nat.succ_mul]
     omega
   exact key xs h2
section
variable{H:Type}{enc:TypeId×Value->H}{P:Program}{w:World}{base:Nat}{sp:Nat->Bool}{held:Bool}
structure lR (w:World) (cs:List Value) (ps:List PD):Prop where
 D5:aQ (.start w) cs ps
 one:∀v∈cs,v.oneCell'=true
theorem lR.nil:lR w [] []:=⟨⟨rfl,by simp⟩,by simp⟩
theorem lR.single{v:Value}{p:PD}(h:VR (.start w) v p)(ho:v.oneCell'=true):lR w [v] [p]:=
 ⟨⟨rfl,fun i u d h1 h2=>by cases i with
   |zero=>simp at h1 h2;subst h1 h2;exact h
   |succ i=>simp at h1⟩,by simpa using ho⟩
theorem lR.append{a b:List Value}{ps qs:List PD}(h:lR w a ps)(k:lR w b qs):lR w (a++b) (ps++qs):=
 ⟨h.D5.append k.D5,fun v hv=>(List.mem_append.1 hv).elim (h.one v) (k.one v)⟩
theorem lR.agg{cs:List Value}{ps:List PD}(h:lR w cs ps):VR (.start w) (.agg cs.toArray) (.agg ps):=.agg cs ps h.D5.1 h.one h.D5.2
theorem aFw{t:TypeId}{d:Nat}{ps:List PD}(h:qO P d t=true)(ht:Typed P d t ps):(kZ P t ps).cells=ps:=by
 cases d with
 |zero=>cases h
 |succ d=>
  unfold qO at h
  unfold Typed at ht
  unfold kZ fN
  split at h<;>rename_i hu<;>try simp only[hu]at ht ⊢
  ·obtain⟨b,rfl⟩:=ht;rfl
  ·obtain⟨b,rfl,_⟩:=ht;rfl
  ·obtain⟨b,rfl,_⟩:=ht;rfl
  ·obtain⟨xs,_,_,rfl⟩:=ht;rfl
  ·rfl
  ·rfl
theorem aFx{fuel:Nat}{t:TypeId}{cs:List Value}{x:DataW H×List MemPlace}(ht:P.underlying t=some .bool)(h:DataW.trod enc P w base sp held fuel t cs=some x):∃b,cs=[.bool b]:=by
 cases fuel with
 |zero=>simp[DataW.trod]at h
 |succ n=>
  unfold DataW.trod at h
  rw[ht]at h
  split at h<;>simp_all
theorem LC:∀(fuel d:Nat) (t:TypeId) (cs:List Value) (x:DataW H×List MemPlace),DataW.trod enc P w base sp held fuel t cs=some x->qO P d t=true->∃ps,Typed P d t ps/\lR w cs ps
 |_,0,_,_,_,_,h=>by cases h
 |fuel,d+1,t,cs,x,hx,h=>by
  unfold qO at h
  split at h<;>rename_i hu<;>try simp only[Typed,hu]
  ·obtain⟨b,rfl⟩:=aFx hu hx
   exact⟨_,⟨b,rfl⟩,lR.single (.bool _) rfl⟩
  ·rename_i k
   obtain⟨n,rfl,_,hw⟩:=DataW.trod_int hu hx
   exact⟨_,⟨n,rfl,hw⟩,lR.single (.int _ _) rfl⟩
  ·obtain⟨s,rfl,_,hs⟩:=DataW.trod_string hu hx
   refine⟨_,⟨s.data.toList,rfl,by rw[Array.length_toList];exact hs⟩,lR.single ?_ rfl⟩
   have:s=⟨s.data.toList.toArray⟩:=by simp
   conv=>lhs;rw[this]
   exact .str _
  ·rename_i e
   simp only[yAr,decide_eq_true_eq]at h
   obtain⟨⟨_,he⟩,hpos⟩:=h
   rcases DataW.trod_slice hu hx with⟨rfl,_⟩ | ⟨a,len,cap,elems,rest,n,rfl,rfl,hrest⟩
   ·exact⟨_,⟨[],by simp,by simp,rfl⟩,lR.single (.slice none 0 0 0 [] .any [] rfl (yAk _) (yBf _) (by simp) rfl (by simp) (by simp) (by simp) trivial) rfl⟩
   ·obtain⟨_,hlc,hcm,hel,hall,_,_⟩:=hrest.2
    have key:∀(k i:Nat),i+k=len->∃(ys:List (List PD)) (fl:List Value),ys.length=k/\(∀y∈ys,Typed P d e y)/\lR w fl ys.flatten/\fl.length=k*P.cellsOf e /\
      ∀(j:Nat) (v:Value),fl[j]?=some v->w.cell? (a.add (i*P.cellsOf e+j))=some v:=by
     intro k
     induction k with
     |zero=>intro i _;exact⟨[],[],rfl,by simp,lR.nil,by simp,by simp⟩
     |succ k ih=>
      intro i hi
      obtain⟨ys,fl,h1,h2,h3,h4,h5⟩:=ih (i+1) (by omega)
      have h6:=hall i (by omega)
      have hlt:i<elems.length:=by omega
      rw[yAh hlt,Option.bind_eq_some_iff]at h6
      obtain⟨vs,h7,h8⟩:=h6
      obtain⟨_,h9,h10⟩:=World.cells?_some h7
      obtain⟨qs,h11,h12⟩:=LC n d e _ _ h8 he
      refine⟨qs::ys,vs++fl,by simp[h1],by simpa using⟨h11,h2⟩,by rw[List.flatten_cons];exact h12.append h3,by rw[yAa,h9,h4,Nat.succ_mul];omega,fun j v hv=>?_⟩
      rcases Nat.lt_or_ge j vs.length with hj|hj
      ·rw[yAg hj]at hv
       have:=h10 j (by omega)
       rw[A9]at this
       rw[this,hv]
      ·rw[List.getElem?_append_right hj]at hv
       have:=h5 _ v hv
       rw[h9]at this hj
       rw[<-this,Nat.succ_mul]
       congr 2
       omega
    obtain⟨ys,fl,h1,h2,h3,h4,h5⟩:=key len 0 (by omega)
    have hcells:∀y∈ys,(kZ P e y).cells=y:=fun y hy=>aFw he (h2 y hy)
    have hflat:(ys.map (kZ P e)).flatMap PD.cells=ys.flatten:=by
     have:∀(ys:List (List PD)),(∀y∈ys,(kZ P e y).cells=y)->(ys.map (kZ P e)).flatMap PD.cells=ys.flatten:=by
      intro ys
      induction ys with
      |nil=>intro _;rfl
      |cons y ys ih=>
       intro hy
       rw[List.map_cons,List.flatMap_cons,List.flatten_cons,hy y (by simp),ih (fun z hz=>hy z (by simp[hz]))]
     exact this ys hcells
    refine⟨_,⟨ys,by omega,h2,rfl⟩,lR.single (.slice (some a) len cap _ _ .any fl (by simp[h1]) hlc hcm ?_ ?_ h3.one ?_ ?_ trivial) rfl⟩
    ·intro x hx
     obtain⟨y,hy,rfl⟩:=yAw.1 hx
     rw[hcells y hy,Typed.length d e y he (h2 y hy),cG (List.ne_nil_of_mem hy)]
    ·rw[h4]
     cases ys with
     |nil=>simp at h1;subst h1;simp
     |cons y ys=>simp[sz]
    ·intro j v hv
     have:=h5 j v hv
     rw[Nat.zero_mul,yAp]at this
     exact⟨a,rfl,this,YC _⟩
    ·intro j v p hv hp
     rw[hflat]at hp
     exact h3.D5.2 j v p hv hp
  ·rename_i fs
   simp only[beq_iff_eq]at h
   obtain⟨xs,n,rfl,_,hl,hn,hf⟩:=DataW.trod_struct hu hx
   have key:∀(gs:List Field) (i:Nat) (off m:Nat),gs=fs.toList.drop i->yN (qO P d) P off gs=some m->m<=cs.length->off<=m/\∃ps,tA (Typed P d) gs ps/\lR w ((cs.drop off).take (m-off)) ps:=by
    intro gs
    induction gs with
    |nil=>
     intro i off m _ hp hm
     simp only[yN,yAb]at hp
     subst hp
     exact⟨yAk _,[],rfl,by simpa using lR.nil⟩
    |cons g gs ih=>
     intro i off m hg hp hm
     simp only[yN]at hp
     split at hp
     ·rename_i hc
      have hgi:fs[i]?=some g:=by
       have:(fs.toList.drop i)[0]?=some g:=by rw[<-hg];rfl
       simpa using this
      have hgs:gs=fs.toList.drop (i+1):=by
       rw[<-List.tail_drop,<-hg];rfl
      obtain⟨h1,ps,h2,h3⟩:=ih (i+1) _ m hgs hp hm
      have h4:=hf i g hgi
      have hlt:i<xs.length:=by
       rw[hn]
       exact(Array.getElem?_eq_some_iff.1 hgi).1
      rw[yAh hlt]at h4
      obtain⟨qs,h5,h6⟩:=LC n d g.type _ _ h4 hc.2
      refine⟨by omega,qs++ps,⟨qs,ps,rfl,h5,h2⟩,?_⟩
      rw[hc.1]at h6
      have e:(cs.drop off).take (m-off)=(cs.drop off).take (P.cellsOf g.type)++(cs.drop (off+P.cellsOf g.type)).take (m-(off+P.cellsOf g.type)):=by
       have:m-off=P.cellsOf g.type+(m-(off+P.cellsOf g.type)):=by omega
       rw[this,List.take_add,List.drop_drop]
      rw[e]
      exact h6.append h3
     ·cases hp
   obtain⟨_,ps,h1,h2⟩:=key fs.toList 0 0 _ (by simp) h (by omega)
   refine⟨ps,h1,?_⟩
   simpa [<-hl]using h2
  ·rename_i n e
   simp only[yAr,beq_iff_eq]at h
   obtain⟨xs,m,rfl,_,hl,hn,hf⟩:=DataW.trod_array hu hx
   have key:∀(k i:Nat),i+k=n->∃ys:List (List PD),ys.length=k/\(∀y∈ys,Typed P d e y)/\lR w (cs.drop (i*P.cellsOf e)) ys.flatten:=by
    intro k
    induction k with
    |zero=>
     intro i hi
     have:cs.drop (i*P.cellsOf e)=[]:=yAs (by rw[hl,h.2];simp at hi;subst hi;omega)
     exact⟨[],rfl,by simp,by rw[this];exact lR.nil⟩
    |succ k ih=>
     intro i hi
     obtain⟨ys,h1,h2,h3⟩:=ih (i+1) (by omega)
     have h4:=hf i (by omega)
     have hlt:i<xs.length:=by omega
     rw[yAh hlt]at h4
     obtain⟨qs,h5,h6⟩:=LC m d e _ _ h4 h.1
     refine⟨qs::ys,by simp[h1],by simpa using⟨h5,h2⟩,?_⟩
     rw[List.flatten_cons]
     have e':cs.drop (i*P.cellsOf e)=(cs.drop (i*P.cellsOf e)).take (P.cellsOf e)++cs.drop ((i+1)*P.cellsOf e):=by
      rw[Nat.succ_mul,<-List.drop_drop,List.take_append_drop]
     rw[e']
     exact h6.append h3
   obtain⟨ys,h1,h2,h3⟩:=key n 0 (by omega)
   exact⟨_,⟨ys,h1,h2,rfl⟩,by simpa using h3⟩
  ·cases h
end
end
section
open Go.RowKit
section
variable{H:Type}{enc:TypeId×Value->H}{P:Program}{w:World}{base:Nat}{sp:Nat->Bool}{held:Bool}
theorem PB{n:Nat}{t:TypeId}{v:Value}{d:DataW H}{ms:List MemPlace}(hp:qO P n t=true)(hv:Value.okWide P w .any base t v)(h:DataW.Trod enc P w 0 sp held t v d ms) :
  ∃qs,Typed P n t qs/\VR (.start w) v (kZ P t qs):=by
 obtain⟨fuel,h⟩:=h
 obtain⟨qs,h1,h2⟩:=LC fuel n t _ _ h hp
 refine⟨qs,h1,?_⟩
 have hlen:=Typed.length n t qs hp h1
 cases n with
 |zero=>cases hp
 |succ n=>
  have cell:fN P t=some false->(∀cs,v≠.agg cs)->VR (.start w) v (kZ P t qs):=fun ha hna=>by
   have hc:v.cells=#[v]:=by
    cases v<;>first|rfl|exact absurd rfl (hna _)
   rw[hc]at h2
   obtain⟨hl,hr⟩:=h2.D5
   match qs,hl with
   | [q],_=>
     have:=hr 0 v q rfl rfl
     simpa only[kZ,ha,List.headD_cons]using this
  have row:fN P t=some true->(∃cs,v=.agg cs)->VR (.start w) v (kZ P t qs):=fun ha ⟨cs,e⟩=>by
   subst e
   have:=h2.agg
   simpa only[kZ,ha,Value.cells]using this
  unfold qO at hp
  unfold Value.okWide at hv
  split at hp<;>rename_i hu
  ·refine cell (by simp only[fN,hu]) (fun cs e=>?_)
   subst e
   simp[hu,Cell.okWide,Cell.ok]at hv
  ·refine cell (by simp only[fN,hu]) (fun cs e=>?_)
   subst e
   simp[hu,Cell.okWide,Cell.ok]at hv
  ·refine cell (by simp only[fN,hu]) (fun cs e=>?_)
   subst e
   simp[hu,Cell.okWide,Cell.ok]at hv
  ·refine cell (by simp only[fN,hu]) (fun cs e=>?_)
   subst e
   simp[hu,Cell.okWide,Cell.ok]at hv
  ·rw[hu]at hv
   obtain⟨cs,e,_⟩:=hv
   exact row (by simp only[fN,hu]) ⟨cs,e⟩
  ·rw[hu]at hv
   obtain⟨cs,e,_⟩:=hv
   exact row (by simp only[fN,hu]) ⟨cs,e⟩
  ·cases hp
end
section
variable{P:Program}
theorem l9{d:Nat}{t:TypeId}{k:IntKind}{qs:List PD}(hu:P.underlying t=some (.int k))(h:Typed P (d+1) t qs):∃n,qs=[.int k n]/\(Lit.int k n).wf=true:=by
 simpa only[Typed,hu]using h
theorem XS{d:Nat}{t:TypeId}{qs:List PD}(hu:P.underlying t=some .bool)(h:Typed P (d+1) t qs):∃b,qs=[.bool b]:=by
 simpa only[Typed,hu]using h
theorem DU{d:Nat}{t:TypeId}{fs:Array Field}{qs:List PD}(hu:P.underlying t=some (.struct fs))(h:Typed P (d+1) t qs):tA (Typed P d) fs.toList qs:=by
 simpa only[Typed,hu]using h
theorem KX{α:Type}{em:Em α}{R:α->Prop}{d:Nat}{t e:TypeId}{k:Nat}{qs:List PD}(hu:P.underlying t=some (.slice e))(hk:P.cellsOf e=k)(hf:∀x,Typed P d e x->∃y,kZ P e x=em.U y/\R y)(h:Typed P (d+1) t qs) :
  ∃ys,qs=[(em.list k).U ys]/\ys.length<=maxLen/\∀y∈ys,R y:=by
 simp only[Typed,hu]at h
 obtain⟨xs,h1,h2,rfl⟩:=h
 have key:∀xs:List (List PD),(∀x∈xs,Typed P d e x)->∃ys:List α,ys.length=xs.length/\xs.map (kZ P e)=ys.map em.U/\∀y∈ys,R y:=by
  intro xs
  induction xs with
  |nil=>intro _;exact⟨[],rfl,rfl,by simp⟩
  |cons x xs ih=>
   intro hx
   obtain⟨ys,h3,h4,h5⟩:=ih (fun z hz=>hx z (by simp[hz]))
   obtain⟨y,h6,h7⟩:=hf x (hx x (by simp))
   exact⟨y::ys,by simp[h3],by simp[h4,h6],by simpa using⟨h7,h5⟩⟩
 obtain⟨ys,h3,h4,h5⟩:=key xs h2
 refine⟨ys,?_,by omega,h5⟩
 rw[bJ,h4,hk]
 have:sz k xs=sz k ys:=by simp only[sz,h3]
 rw[this]
theorem DW{t:TypeId}{qs:List PD}(ha:fN P t=some true):kZ P t qs=.agg qs:=by simp only[kZ,ha]
theorem lP{T:TypeId->List PD->Prop}{f:Field}{fs:List Field}{ps:List PD}(h:tA T (f::fs) ps):∃a b,ps=a++b/\T f.type a/\tA T fs b:=h
theorem DV{T:TypeId->List PD->Prop}{ps:List PD}(h:tA T [] ps):ps=[]:=h
theorem wf_u8{z:Int}(hz:(Lit.int .u8 z).wf=true):0<=z/\z<=255:=by
 simp only[Lit.wf,IntKind.min,IntKind.max,IntKind.signed,IntKind.bits]at hz
 simp at hz
 omega
theorem wf_u16{z:Int}(hz:(Lit.int .u16 z).wf=true):0<=z/\z<=65535:=by
 simp only[Lit.wf,IntKind.min,IntKind.max,IntKind.signed,IntKind.bits]at hz
 simp at hz
 omega
theorem aFk{c:Cx}:aQ c [] []:=⟨rfl,by simp⟩
theorem PC{c:Cx}{v:Value}{p:PD}{vs:List Value}{ps:List PD}(h:VR c v p)(hs:aQ c vs ps):aQ c (v::vs) (p::ps):=
 ⟨by simp[hs.1],fun i u d hu hd=>by
  cases i with
  |zero=>simp at hu hd;subst hu hd;exact h
  |succ i=>exact hs.2 i u d (by simpa using hu) (by simpa using hd)⟩
end
end
end Go.Kz
end
