/-
  Part P3 of the way: an interpreter over pure data, its soundness, walks through functions.
-/
import Derived.Test.YtefkonhamghgfaaGreatDoorP2
import Derived.Below
import Derived.OpenShut
import Derived.FnData
import Derived.MakeChecks
import Derived.ProofKit
import Derived.LaidMore
import Derived.Stop.Joined
import Derived.ChangeArms
import Derived.DataReads
set_option linter.all false

namespace Go.Kz
open Go.RowKit
def Cx.start (w:World):Cx:={ w:=w,ρ:=fun _=>undef,σ:=[],D:=fun _=>False,X:=fun _=>True }
theorem Sr.start {w:World} (hg:Gl (.start w)):Sr (.start w) where
 box:=fun _ _ h=>h.elim
 own:=fun _ _ _ _ h=>h.elim
 row:=fun _ _ _ _ _ h=>h.elim
 map:=fun _ _ h=>h.elim
 mark:=fun _ h=>h.elim
 loop:=fun _ _ _ _ _ _ h=>h.elim
 inj:=fun _ _ _ h=>h.elim
 lt:=fun _ _ h=>h.elim
 dom:=fun _ h=>h.elim
 fresh:=fun _ _=>trivial
 glob:=hg
theorem av_start {w:World} (a:Addr):(Cx.start w).av a:=⟨trivial,fun _ _ h=>h.elim⟩
theorem open_wide {P:Program} (hN:∀ (f:FuncId) fn,P.funcs[f]?=some fn→(fn.name== "runtime.NumGoroutine")=false):Open Fence.wide P:=⟨fun _=>trivial,rfl,hN,rfl⟩
theorem calls_of_pcall {P:Program} {E:PExt} (hE:ExtOk P E) (hP:P.follows .mixedOrders=true) (hN:∀ (f:FuncId) fn,P.funcs[f]?=some fn→(fn.name== "runtime.NumGoroutine")=false)
  {n:Nat} {f:FuncId} {args:List PD} {vs:List Value} {w:World} {p:PD} {σ':List SObj} (h:pcall P E n 0 (.inl f) args []=some (p,σ')) (hg:Gl (.start w)) (hv:VRs (.start w) vs args) :
  Calls P f vs.toArray w fun e w'=>∃ v c',e=.returned v∧c'.w=w'∧VR c' v p∧Nx 0 (.start w) c'∧Below w.heap.size w w':=by
 have:=((pcall_ok hE hP (open_wide hN) n).fn (c:=.start w) (fl:=0) h (.start hg) (fun _ _ h=>h.elim) hv).2 0
 refine Calls.mono (callsIn_wide.1 this) fun e w' he=>?_
 cases e with
 | returned v=>
   obtain ⟨c',e1,_,_,nx,hvv,_⟩:=he
   refine ⟨v,c',rfl,e1,hvv,nx,?_⟩
   subst e1
   exact ⟨nx.os,nx.tape,nx.output,nx.size,fun k hk=>nx.frame k hk (fun _ h=>h.elim)⟩
 | panicked ch=>exact he.elim
 | outgrown=>exact he.elim
theorem calls_bool {P:Program} {E:PExt} (hE:ExtOk P E) (hP:P.follows .mixedOrders=true) (hN:∀ (f:FuncId) fn,P.funcs[f]?=some fn→(fn.name== "runtime.NumGoroutine")=false)
  {n:Nat} {f:FuncId} {args:List PD} {vs:List Value} {w:World} {b:Bool} {σ':List SObj} (h:pcall P E n 0 (.inl f) args []=some (.bool b,σ')) (hg:Gl (.start w)) (hv:VRs (.start w) vs args) :
  Calls P f vs.toArray w fun e w'=>e=.returned (.bool b)∧Below w.heap.size w w':=by
 refine Calls.mono (calls_of_pcall hE hP hN h hg hv) fun e w' ⟨v,c',h1,h2,h3,h4,h5⟩=>?_
 rw [h3.inv_bool] at h1
 exact ⟨h1,h5⟩
end Go.Kz

namespace Go.Kz
open Go.RowKit
end Go.Kz

namespace Go.Kz
section
variable {P:Program} {E:PExt} {rd:Option Nat} {fl:Nat} {fr:List PD} {ms:List Nat} {σ:List SObj} {r:PO}
def Ev (P:Program) (E:PExt) (rd:Option Nat) (c:Code) (fl:Nat) (fr:List PD) (ms:List Nat) (σ:List SObj) (r:PO):Prop:=∃ N,∀ n,N≤n→pcode P E n rd c fl fr ms σ=some r
def EvC (P:Program) (E:PExt) (fl:Nat) (f:FuncId ⊕ Nat) (args:List PD) (σ:List SObj) (p:PD) (σ':List SObj):Prop:=∃ N,∀ n,N≤n→pcall P E n fl f args σ=some (p,σ')
theorem Ev.step {c:Code} {N:Nat} (h:∀ n,N≤n→pcode P E (n+1) rd c fl fr ms σ=some r):Ev P E rd c fl fr ms σ r:=
 ⟨N+1,fun n hn=>by obtain ⟨m,rfl⟩:∃ m,n=m+1:=⟨n - 1,by omega⟩;exact h m (by omega)⟩
theorem Ev.skip:Ev P E rd .skip fl fr ms σ ⟨.normal,fr,ms,σ⟩:=.step (N:=0) fun _ _=>rfl
theorem Ev.ret:Ev P E rd .ret fl fr ms σ ⟨.ret,fr,ms,σ⟩:=.step (N:=0) fun _ _=>rfl
theorem Ev.exit {id:Nat}:Ev P E rd (.exit id) fl fr ms σ ⟨.exit id,fr,ms,σ⟩:=.step (N:=0) fun _ _=>rfl
theorem Ev.seq {x y:Code} {fr1:List PD} {ms1:List Nat} {σ1:List SObj} (h:Ev P E rd x fl fr ms σ ⟨.normal,fr1,ms1,σ1⟩) (k:Ev P E rd y fl fr1 ms1 σ1 r):Ev P E rd (.seq x y) fl fr ms σ r:=by
 obtain ⟨N,h⟩:=h
 obtain ⟨M,k⟩:=k
 exact .step (N:=max N M) fun n hn=>by simp only [pcode,h n (by omega)];exact k n (by omega)
theorem Ev.seq_out {x y:Code} (h:Ev P E rd x fl fr ms σ r) (hr:r.x≠.normal):Ev P E rd (.seq x y) fl fr ms σ r:=by
 obtain ⟨N,h⟩:=h
 exact .step (N:=N) fun n hn=>by
  simp only [pcode,h n hn]
  obtain ⟨x,a,b,c⟩:=r
  cases x <;> first | exact absurd rfl hr | rfl
theorem Ev.cond {g:Operand} {x y:Code} {b:Bool} (hg:peval fr g=some (.bool b)) (h:Ev P E rd (if b then x else y) fl fr ms σ r):Ev P E rd (.cond g x y) fl fr ms σ r:=by
 obtain ⟨N,h⟩:=h
 exact .step (N:=N) fun n hn=>by
  simp only [pcode,hg]
  cases b <;> exact h n hn
theorem Ev.block {id:Nat} {b:Code} {fr1:List PD} {ms1:List Nat} {σ1:List SObj} {k:Nat} (h:Ev P E rd b fl fr ms σ ⟨.exit k,fr1,ms1,σ1⟩):Ev P E rd (.block id b) fl fr ms σ ⟨if k=id then .normal else .exit k,fr1,ms1,σ1⟩:=by
 obtain ⟨N,h⟩:=h
 exact .step (N:=N) fun n hn=>by simp only [pcode,h n hn]
theorem Ev.block_other {id:Nat} {b:Code} (h:Ev P E rd b fl fr ms σ r) (hr:∀ k,r.x≠.exit k):Ev P E rd (.block id b) fl fr ms σ r:=by
 obtain ⟨N,h⟩:=h
 exact .step (N:=N) fun n hn=>by
  simp only [pcode,h n hn]
  obtain ⟨x,a,b,c⟩:=r
  cases x <;> first | exact absurd rfl (hr _) | rfl
theorem Ev.loop {b:Code} {fr1:List PD} {ms1:List Nat} {σ1:List SObj} (h:Ev P E rd b fl fr ms σ ⟨.normal,fr1,ms1,σ1⟩) (k:Ev P E rd (.loop b) fl fr1 ms1 σ1 r):Ev P E rd (.loop b) fl fr ms σ r:=by
 obtain ⟨N,h⟩:=h
 obtain ⟨M,k⟩:=k
 exact .step (N:=max N M) fun n hn=>by simp only [pcode,h n (by omega)];exact k n (by omega)
theorem Ev.loop_out {b:Code} (h:Ev P E rd b fl fr ms σ r) (hr:r.x≠.normal):Ev P E rd (.loop b) fl fr ms σ r:=by
 obtain ⟨N,h⟩:=h
 exact .step (N:=N) fun n hn=>by
  simp only [pcode,h n hn]
  obtain ⟨x,a,b,c⟩:=r
  cases x <;> first | exact absurd rfl hr | rfl
theorem Ev.region {id:Nat} {ops:Array Oper} {fr1:List PD} {σ1:List SObj} {N:Nat} (h:∀ n,N≤n→pseq P (pcall P E n) fl ops ops.toList fr σ=some (fr1,σ1)):Ev P E rd (.region id ops false) fl fr ms σ ⟨.normal,fr1,ms,σ1⟩:=
 .step (N:=N) fun n hn=>by
  have:=h n hn
  unfold pcall at this
  simp only [pcode,pregion,this]
theorem Ev.pair {id:Nat} {ops:Array Oper} {fr1:List PD} {σ1:List SObj} {N:Nat} (h:∀ n,N≤n→pregion P (pcall P E n) fl ops fr σ=some (fr1,σ1)):Ev P E rd (.region id ops false) fl fr ms σ ⟨.normal,fr1,ms,σ1⟩:=
 .step (N:=N) fun n hn=>by
  have:=h n hn
  unfold pcall at this
  simp only [pcode,this]
theorem Ev.drawX {id:Nat} {ops:Array Oper} {fr1:List PD} {σ1:List SObj} {N:Nat} (h:∀ n,N≤n→pdrawX P (pcall P E n) fl ops fr σ=some (fr1,σ1)):Ev P E rd (.region id ops true) fl fr ms σ ⟨.normal,fr1,ms,σ1⟩:=
 .step (N:=N) fun n hn=>by
  have:=h n hn
  unfold pcall at this
  simp only [pcode,this]
theorem Ev.draw {id:Nat} {ops:Array Oper} {fr1:List PD} {σ1:List SObj} {N:Nat} (h:∀ n,N≤n→pdraw P (pcall P E n) fl ops fr σ=some (fr1,σ1)):Ev P E rd (.region id ops true) fl fr ms σ ⟨.normal,fr1,ms,σ1⟩:=
 .drawX (N:=N) fun n hn=>by unfold pdrawX;rw [h n hn]
theorem EvC.body {f:FuncId} {fn:Func} {c:Code} {args:List PD} {p:PD} {σ':List SObj} (hE:E f=none) (hf:P.funcs[f]?=some fn) (hb:fn.body=some c)
  (h:Ev P E none c fl (args++List.replicate (fn.ntmps - args.length) (.tup [])) [] σ r) (hr:pfinish P fl fn r=some (p,σ')):EvC P E fl (.inl f) args σ p σ':=by
 obtain ⟨N,h⟩:=h
 exact ⟨N,fun n hn=>by simp only [pcall,pcallBy,hE,pbody,hf,hb,h n hn,hr]⟩
theorem EvC.ext {f:FuncId} {g:Nat→List PD→List SObj→Option (PD×List SObj)} {args:List PD} {p:PD} {σ':List SObj} (hE:E f=some g) (h:g fl args σ=some (p,σ')):EvC P E fl (.inl f) args σ p σ':=
 ⟨0,fun n _=>by simp only [pcall,pcallBy,hE,h]⟩
end
def PExt.add (E:PExt) (f:FuncId) (g:Nat→List PD→List SObj→Option (PD×List SObj)):PExt:=fun f'=>if f'=f then some g else E f'
theorem ExtOk.add {P:Program} {E:PExt} (hE:ExtOk P E) (hP:P.follows .mixedOrders=true) {f:FuncId} {g:Nat→List PD→List SObj→Option (PD×List SObj)}
  (h:∀ fl args σ p σ',g fl args σ=some (p,σ')→EvC P E fl (.inl f) args σ p σ'):ExtOk P (E.add f g):=by
 intro F fl f' g' args c vs p σ' hF hg hgo hs hX hv
 unfold PExt.add at hg
 split at hg
 ·rename_i e
  subst e
  simp only [Option.some.injEq] at hg;subst hg
  obtain ⟨N,hN⟩:=h fl args c.σ p σ' hgo
  exact (pcall_ok hE hP hF N).fn (hN N (Nat.le_refl _)) hs hX hv
 ·exact hE hF hg hgo hs hX hv
end Go.Kz

namespace Go.Kz
def freeAt (ops:Array Oper) (i:Nat):Bool:=noLoose ops.toList (masks ops.toList []) i
def pdseq (P:Program) (call:PCall) (fl:Nat) (ops:Array Oper):List (Bool×Oper)→List PD→List SObj→Option (List PD×List SObj)
 | [],fr,σ=>some (fr,σ)
 | (free,o)::rest,fr,σ=>
   if Region.wanted o (pyield ops fr) then
    match free with
    | true=>match pstep P call fl fr σ o.op with
      | some (p,σ')=>pdseq P call fl ops rest (pput fr o.dst p) σ'
      | none=>none
    | false=>match pstep P call (max fl σ.length) fr σ o.op with
      | some (p,σ')=>pdseq P call fl ops rest (pput fr o.dst p) (σ++σ'.drop σ.length)
      | none=>none
   else pdseq P call fl ops rest (pput fr o.dst (.tup [])) σ
def flags (ops:Array Oper) (i:Nat):List Oper→List (Bool×Oper)
 | []=>[]
 | o::r=>(!shapeMove o.op||freeAt ops i,o)::flags ops (i+1) r
def staticOk (ops:Array Oper):Bool:=
 regOk ops (masks ops.toList [])&&ops.toList.all (fun o=>!shapeAlloc o.op) &&
 (List.range ops.size).all fun k=>!isAt shapeStore ops.toList k||(List.range ops.size).all fun i=>!isAt shapeLoad ops.toList i||!loose (masks ops.toList []) i k
section
variable {P:Program} {call:PCall} {fl:Nat} {ops:Array Oper}
theorem shapeA_pmem {fr:List PD} {σ:List SObj} {op:Op} (h:shapeA op=true):pmem P fl fr σ op=none:=by
 cases op <;> first | rfl | (simp [shapeA] at h;done) | (rename_i s d x;simp only [shapeA,Bool.not_eq_true'] at h;simp only [pmem,h,Bool.false_eq_true,if_false];done) | skip
 rename_i c
 obtain ⟨callee,args,ts⟩:=c
 cases callee with
 | value f=>simp [shapeA] at h
 | invoke r m=>simp [shapeA] at h
 | builtin b=>cases b <;> first | rfl | (simp [shapeA] at h)
theorem pdop_pstep {k:Nat} {free:Bool} {fr:List PD} {σ:List SObj} {op:Op} (hs:(shapeA op||shapeLoad op||shapeAlloc op||shapeSlice op||shapeW op)=true) (ha:shapeAlloc op=false) :
  pdop P call fl free k fr σ op=(match (!shapeMove op||free) with
   | true=>pstep P call fl fr σ op
   | false=>match pstep P call (max fl σ.length) fr σ op with
     | some (p,σ')=>some (p,σ++σ'.drop σ.length)
     | none=>none):=by
 unfold pdop
 by_cases hA:shapeA op=true
 ·obtain ⟨hpc,_,hW,_⟩:=shapeA_spec (fr:=fr) hA
  have hM:shapeMove op=false:=by simp [shapeW] at hW;exact hW.2
  rw [if_pos hA,hM]
  simp only [Bool.not_false,Bool.true_or]
  unfold pstep pop
  rw [hpc]
  simp only
  cases hp:pval P fr op with
  | some p=>rfl
  | none=>
    simp only
    rw [shapeA_pmem hA]
 ·simp only [Bool.not_eq_true] at hA
  rw [hA,ha]
  simp only [Bool.false_eq_true,if_false]
  by_cases hM:shapeMove op=true
  ·rw [hM]
   cases free with
   | true=>simp
   | false=>
     simp only [Bool.not_false,Bool.and_self,if_true,Bool.not_true,Bool.or_false]
     cases pstep P call (max fl σ.length) fr σ op <;> rfl
  ·simp only [Bool.not_eq_true] at hM
   rw [hM]
   simp only [Bool.false_and,Bool.false_eq_true,if_false,Bool.not_false,Bool.true_or]
   have h3:shapeLoad op=true∨shapeSlice op=true∨shapeStore op=true:=by
    simp only [hA,ha,shapeW,hM,Bool.false_or,Bool.or_false,Bool.or_eq_true] at hs
    rcases hs with (h | h) | h
    ·exact .inl h
    ·exact .inr (.inl h)
    ·exact .inr (.inr h)
   obtain ⟨hv,hp,_⟩:=pval_none_load (P:=P) (fr:=fr) h3
   unfold pstep pop
   rw [hp,hv]
theorem pdraw_static (h:staticOk ops=true) (fr:List PD) (σ:List SObj):pdraw P call fl ops fr σ=pdseq P call fl ops (flags ops 0 ops.toList) fr σ:=by
 simp only [staticOk,Bool.and_eq_true] at h
 obtain ⟨⟨hreg,hall⟩,hfeet⟩:=h
 have hr:=regOk_spec hreg
 have hna:∀ (l:List Oper),l.all (fun o=>!shapeAlloc o.op)=true→phoist P l=some []:=by
  intro l
  induction l with
  | nil=>intro _;rfl
  | cons o l ih=>
    intro hl
    simp only [List.all_cons,Bool.and_eq_true,Bool.not_eq_true'] at hl
    unfold phoist
    split
    ·rename_i t ht;rw [ht] at hl;simp [shapeAlloc] at hl
    ·exact ih hl.2
 have key:∀ (l:List Oper) (i k:Nat) (fr:List PD) (σ:List SObj),ops.toList.drop i=l →
   (match pdrawOps P call fl ops (masks ops.toList []) i k l fr σ with | some (_,fr',σ')=>some (fr',σ') | none=>none)=pdseq P call fl ops (flags ops i l) fr σ:=by
  intro l
  induction l with
  | nil=>intro i k fr σ _;rfl
  | cons o rest ih=>
    intro i k fr σ hdrop
    have ho:ops[i]?=some o:=by
     have:=congrArg List.head? hdrop
     rw [List.head?_drop] at this
     simpa using this
    have hdrop':ops.toList.drop (i+1)=rest:=by rw [← List.drop_drop,hdrop];rfl
    have hal:shapeAlloc o.op=false:=by
     have:=List.all_eq_true.1 hall o (Array.mem_toList_iff.2 (Array.mem_of_getElem? ho))
     simpa using this
    simp only [pdrawOps,flags,pdseq]
    cases hw:Region.wanted o (pyield ops fr) with
    | true=>
      simp only [if_true]
      rw [pdop_pstep (hr.shape i o ho) hal]
      simp only [freeAt]
      cases (!shapeMove o.op||noLoose ops.toList (masks ops.toList []) i) with
      | true=>
        simp only
        cases hp:pstep P call fl fr σ o.op with
        | none=>rfl
        | some q=>
          obtain ⟨p,σ'⟩:=q
          simp only
          rw [← ih (i+1) (if shapeAlloc o.op=true then k+1 else k) (pput fr o.dst p) σ' hdrop']
          cases pdrawOps P call fl ops (masks ops.toList []) (i+1) (if shapeAlloc o.op=true then k+1 else k) rest (pput fr o.dst p) σ' <;> rfl
      | false=>
        simp only
        cases hp:pstep P call (max fl σ.length) fr σ o.op with
        | none=>rfl
        | some q=>
          obtain ⟨p,σ'⟩:=q
          simp only
          rw [← ih (i+1) (if shapeAlloc o.op=true then k+1 else k) (pput fr o.dst p) _ hdrop']
          cases pdrawOps P call fl ops (masks ops.toList []) (i+1) (if shapeAlloc o.op=true then k+1 else k) rest (pput fr o.dst p) (σ++σ'.drop σ.length) <;> rfl
    | false=>
      simp only [Bool.false_eq_true,if_false]
      rw [← ih (i+1) (if shapeAlloc o.op=true then k+1 else k) (pput fr o.dst (.tup [])) σ hdrop']
      cases pdrawOps P call fl ops (masks ops.toList []) (i+1) (if shapeAlloc o.op=true then k+1 else k) rest (pput fr o.dst (.tup [])) σ <;> rfl
 unfold pdraw
 simp only [hreg,if_true,hna _ hall,List.append_nil]
 rw [← key ops.toList 0 σ.length fr σ (by simp)]
 split
 ·rename_i tr fr' σ' hops
  have hfo:footsOk ops.toList (masks ops.toList []) tr=true:=by
   simp only [footsOk,List.all_eq_true,List.mem_range]
   simp only [List.all_eq_true,List.mem_range] at hfeet
   intro k hk
   have h1:=hfeet k (by simpa using hk)
   cases hs:isAt shapeStore ops.toList k with
   | false=>simp
   | true=>
     rw [hs] at h1
     simp only [Bool.not_true,Bool.false_or,List.all_eq_true,List.mem_range] at h1 ⊢
     intro i hi
     have h2:=h1 i (by simpa using hi)
     simp only [Bool.or_eq_true] at h2 ⊢
     exact .inl h2
  rw [hfo,hops];rfl
 ·rename_i hops;rw [hops]
end
end Go.Kz

namespace Go.Kz
def Cx.bare (c:Cx):Cx:={ w:=c.w,ρ:=fun _=>undef,σ:=[],D:=fun _=>False,X:=c.av }
theorem av_fresh {c:Cx} (hs:Sr c) {a:Addr} (h:c.w.heap.size≤a.block):c.av a:=by
 refine ⟨hs.fresh a h,fun id o hd ho=>?_⟩
 have key:∀ b,blk (c.ρ id)=some b→a.block≠b:=fun b hb e=>by
  have:=hs.lt id b hd hb
  omega
 cases o with
 | none=>trivial
 | box p=>exact key
 | own e size n=>intro b hb e;exact absurd e (key b hb)
 | row e size ver ds=>exact key
 | map es=>trivial
 | mark=>trivial
 | loop st fr ps asg bd=>trivial
theorem bare_av {c:Cx} (a:Addr):c.bare.av a↔c.av a:=⟨fun h=>h.1,fun h=>⟨h,fun _ _ hd=>hd.elim⟩⟩
theorem gcells_free {g:Nat} {ds:List PD} (h:gcells g=some ds):PD.idfreeL ds=true:=by
 unfold gcells at h
 split at h
 ·simp only [Option.some.injEq] at h;subst h
  rw [PD.idfreeL_all]
  simp only [List.all_eq_true,List.mem_map]
  rintro x ⟨y,_,rfl⟩
  simp [PD.idfree]
 ·simp at h
theorem Sr.bare {c:Cx} (hs:Sr c):Sr c.bare where
 box:=fun _ _ h=>h.elim
 own:=fun _ _ _ _ h=>h.elim
 row:=fun _ _ _ _ _ h=>h.elim
 map:=fun _ _ h=>h.elim
 mark:=fun _ h=>h.elim
 loop:=fun _ _ _ _ _ _ h=>h.elim
 inj:=fun _ _ _ h=>h.elim
 lt:=fun _ _ h=>h.elim
 dom:=fun _ h=>h.elim
 fresh:=fun _ h=>av_fresh hs h
 glob:=⟨fun g ds e=>(hs.glob.1 g ds e).free (fun a v h1 h2=>⟨(bare_av a).2 h1,h2⟩) (by simpa [PD.idfree] using gcells_free e),fun g hh=>⟨(hs.glob.2 g hh).1,fun _ h=>h.elim⟩⟩
theorem ExtOk.addFree {P:Program} {E:PExt} (hE:ExtOk P E) (hP:P.follows .mixedOrders=true) {f:FuncId} {g:List PD→Option PD}
  (h:∀ args p,g args=some p→∃ p1 σ1,EvC P E 0 (.inl f) (args.map PD.strip) [] p1 σ1∧p1.strip=p∧PD.idfreeL (args.map PD.strip)=true∧p.idfree=true) :
  ExtOk P (E.add f (fun _ args σ=>match g args with | some p=>some (p,σ) | none=>none)):=by
 intro F fl f' g' args c vs p σ' hF hg hgo hs hX hv
 unfold PExt.add at hg
 split at hg
 ·rename_i e
  subst e
  simp only [Option.some.injEq] at hg;subst hg
  cases hga:g args with
  | none=>simp only [hga] at hgo;cases hgo
  | some q=>
    simp only [hga,Option.some.injEq,Prod.mk.injEq] at hgo
    obtain ⟨rfl,rfl⟩:=hgo
    obtain ⟨p1,σ1,⟨N,hN⟩,e1,e2,e3⟩:=h args q hga
    have hv0:VRs c.bare vs (args.map PD.strip):=hv.strip.free (fun a v h1 h2=>⟨(bare_av a).2 h1,h2⟩) e2
    have:=(pcall_ok hE hP hF N).fn (c:=c.bare) (hN N (Nat.le_refl _)) hs.bare (fun _ _ h=>h.elim) hv0
    refine ⟨this.1,fun m=>CallsIn.mono (this.2 m) fun e w' he=>?_⟩
    cases e with
    | returned v=>
      obtain ⟨c1,rfl,rfl,hs1,nx,hvv,_⟩:=he
      have hgr:c.w.grownBy c1.w none:=⟨nx.os,nx.tape,nx.output,nx.size,fun k hk _=>nx.frame k hk (fun _ h=>h.elim)⟩
      refine ⟨c.at c1.w,rfl,rfl,hs.grow hgr,Nx.grow hs hgr,?_,fun _ h=>.inl h⟩
      have hp:=hvv.strip
      rw [e1] at hp
      have hav:∀ a,c1.av a→(c.at c1.w).av a:=fun a h1=>by
       have h3:c1.X a:=h1.1
       rw [nx.X] at h3
       exact h3
      exact VR.free (c:=c1) (c':=c.at c1.w) (fun a _ h1 h2=>⟨hav a h1,h2⟩) hp e3
    | panicked ch=>exact he.elim
    | outgrown=>exact he.elim
 ·exact hE hF hg hgo hs hX hv
end Go.Kz

namespace Go.Kz
structure Em (α:Type) where
 emb:α→PD
 inj:∀ {x y},emb x=emb y→x=y
 str:∀ x,(emb x).strip=emb x
 fre:∀ x,(emb x).idfree=true
structure EmC (α:Type) where
 cells:α→List PD
 len:Nat
 hlen:∀ x,(cells x).length=len
 inj:∀ {x y},cells x=cells y→x=y
 str:∀ x,(cells x).map PD.strip=cells x
 fre:∀ x,(cells x).all PD.idfree=true
section
variable {α β γ δ:Type}
open Classical in
noncomputable def Em.dec (e:Em α) (p:PD):Option α:=if h:∃ x,p.strip=e.emb x then some h.choose else none
theorem Em.dec_some {e:Em α} {p:PD} {x:α} (h:p.strip=e.emb x):e.dec p=some x:=by
 have hx:∃ x,p.strip=e.emb x:=⟨x,h⟩
 unfold Em.dec
 rw [dif_pos hx]
 exact congrArg some (e.inj (hx.choose_spec.symm.trans h))
theorem Em.of_dec {e:Em α} {p:PD} {x:α} (h:e.dec p=some x):p.strip=e.emb x:=by
 unfold Em.dec at h
 split at h
 ·rename_i hx
  simp only [Option.some.injEq] at h
  subst h
  exact hx.choose_spec
 ·cases h
@[simp] theorem Em.dec_emb {e:Em α} {x:α}:e.dec (e.emb x)=some x:=Em.dec_some (e.str x)
def Em.int (k:IntKind):Em Int:=⟨PD.int k,fun h=>by simpa using h,fun _=>by simp [PD.strip],fun _=>by simp [PD.idfree]⟩
def Em.bool:Em Bool:=⟨PD.bool,fun h=>by simpa using h,fun _=>by simp [PD.strip],fun _=>by simp [PD.idfree]⟩
def Em.text:Em (List UInt8):=⟨PD.str,fun h=>by simpa using h,fun _=>by simp [PD.strip],fun _=>by simp [PD.idfree]⟩
def Em.unit:Em Unit:=⟨fun _=>.tup [],fun _=>rfl,fun _=>by simp [PD.strip,PD.stripL],fun _=>by simp [PD.idfree,PD.idfreeL]⟩
def sz (k:Nat) (xs:List α):Nat:=if xs.length=0 then 0 else k
@[simp] theorem sz_ok {k:Nat} {xs:List α}:(xs=[]∨k=sz k xs)=True:=by
  cases xs <;> simp [sz]
@[simp] theorem sz_ok' {k:Nat} {xs:List α}:(xs=[]∨sz k xs=k)=True:=by
  cases xs <;> simp [sz]
theorem sz_ne {k:Nat} {xs:List α} (h:xs≠[]):sz k xs=k:=by
 cases xs <;> simp [sz] at *
theorem map_inj' {f:α→β} (hf:∀ x y,f x=f y→x=y):∀ (xs ys:List α),xs.map f=ys.map f→xs=ys
 | [],[],_=>rfl
 | [],_::_,h=>by simp at h
 | _::_,[],h=>by simp at h
 | x::xs,y::ys,h=>by
   simp only [List.map_cons,List.cons.injEq] at h
   rw [hf x y h.1,map_inj' hf xs ys h.2]
def Em.list (e:Em α) (k:Nat):Em (List α) where
 emb:=fun xs=>.slice (sz k xs) (xs.map e.emb) .any
 inj:=fun {x y} h=>by
  simp only [PD.slice.injEq,and_true] at h
  exact map_inj' (fun _ _ h=>e.inj h) x y h.2
 str:=fun xs=>by
  rw [PD.strip_slice]
  have:(xs.map e.emb).map PD.strip=xs.map e.emb:=by
   rw [List.map_map]
   exact List.map_congr_left fun x _=>e.str x
  rw [this]
  cases xs <;> simp [sz]
 fre:=fun xs=>by
  simp only [PD.idfree,PD.idfreeL_all,Bool.and_true,List.all_map]
  exact List.all_eq_true.2 fun x _=>e.fre x
def Em.tup2 (a:Em α) (b:Em β):Em (α×β) where
 emb:=fun x=>.tup [a.emb x.1,b.emb x.2]
 inj:=fun {x y} h=>by
  simp only [PD.tup.injEq,List.cons.injEq,and_true] at h
  exact Prod.ext (a.inj h.1) (b.inj h.2)
 str:=fun x=>by simp [PD.strip,PD.stripL,a.str,b.str]
 fre:=fun x=>by simp [PD.idfree,PD.idfreeL,a.fre,b.fre]
def Em.tup3 (a:Em α) (b:Em β) (c:Em γ):Em (α×β×γ) where
 emb:=fun x=>.tup [a.emb x.1,b.emb x.2.1,c.emb x.2.2]
 inj:=fun {x y} h=>by
  simp only [PD.tup.injEq,List.cons.injEq,and_true] at h
  exact Prod.ext (a.inj h.1) (Prod.ext (b.inj h.2.1) (c.inj h.2.2))
 str:=fun x=>by simp [PD.strip,PD.stripL,a.str,b.str,c.str]
 fre:=fun x=>by simp [PD.idfree,PD.idfreeL,a.fre,b.fre,c.fre]
def Em.tup4 (a:Em α) (b:Em β) (c:Em γ) (d:Em δ):Em (α×β×γ×δ) where
 emb:=fun x=>.tup [a.emb x.1,b.emb x.2.1,c.emb x.2.2.1,d.emb x.2.2.2]
 inj:=fun {x y} h=>by
  simp only [PD.tup.injEq,List.cons.injEq,and_true] at h
  exact Prod.ext (a.inj h.1) (Prod.ext (b.inj h.2.1) (Prod.ext (c.inj h.2.2.1) (d.inj h.2.2.2)))
 str:=fun x=>by simp [PD.strip,PD.stripL,a.str,b.str,c.str,d.str]
 fre:=fun x=>by simp [PD.idfree,PD.idfreeL,a.fre,b.fre,c.fre,d.fre]
def EmC.one (e:Em α):EmC α where
 cells:=fun x=>[e.emb x]
 len:=1
 hlen:=fun _=>rfl
 inj:=fun h=>e.inj (by simpa using h)
 str:=fun x=>by simp [e.str]
 fre:=fun x=>by simp [e.fre]
def EmC.pair (a:EmC α) (b:EmC β):EmC (α×β) where
 cells:=fun x=>a.cells x.1++b.cells x.2
 len:=a.len+b.len
 hlen:=fun _=>by simp [a.hlen,b.hlen]
 inj:=fun {x y} h=>by
  have:=List.append_inj h (by simp [a.hlen])
  exact Prod.ext (a.inj this.1) (b.inj this.2)
 str:=fun _=>by simp only [List.map_append,a.str,b.str]
 fre:=fun _=>by simp only [List.all_append,a.fre,b.fre,Bool.and_self]
def EmC.iso (a:EmC β) (f:α→β) (hf:∀ x y,f x=f y→x=y):EmC α where
 cells:=fun x=>a.cells (f x)
 len:=a.len
 hlen:=fun x=>a.hlen _
 inj:=fun h=>hf _ _ (a.inj h)
 str:=fun x=>a.str _
 fre:=fun x=>a.fre _
def Em.agg (a:EmC α):Em α where
 emb:=fun x=>.agg (a.cells x)
 inj:=fun h=>a.inj (by simpa using h)
 str:=fun _=>by simp only [PD.strip,PD.stripL_map,a.str]
 fre:=fun _=>by simp only [PD.idfree,PD.idfreeL_all,a.fre]
def Em.iso (a:Em β) (f:α→β) (hf:∀ x y,f x=f y→x=y):Em α where
 emb:=fun x=>a.emb (f x)
 inj:=fun h=>hf _ _ (a.inj h)
 str:=fun x=>a.str _
 fre:=fun x=>a.fre _
@[simp] theorem emb_int {k:IntKind} {n:Int}:(Em.int k).emb n=.int k n:=rfl
@[simp] theorem emb_bool {b:Bool}:Em.bool.emb b=.bool b:=rfl
@[simp] theorem emb_text {s:List UInt8}:Em.text.emb s=.str s:=rfl
@[simp] theorem emb_unit {u:Unit}:Em.unit.emb u=.tup []:=rfl
@[simp] theorem emb_list {e:Em α} {k:Nat} {xs:List α}:(e.list k).emb xs=.slice (sz k xs) (xs.map e.emb) .any:=rfl
@[simp] theorem emb_tup2 {a:Em α} {b:Em β} {x:α×β}:(a.tup2 b).emb x=.tup [a.emb x.1,b.emb x.2]:=rfl
@[simp] theorem emb_tup3 {a:Em α} {b:Em β} {c:Em γ} {x:α×β×γ}:(a.tup3 b c).emb x=.tup [a.emb x.1,b.emb x.2.1,c.emb x.2.2]:=rfl
@[simp] theorem emb_tup4 {a:Em α} {b:Em β} {c:Em γ} {d:Em δ} {x:α×β×γ×δ}:(a.tup4 b c d).emb x=.tup [a.emb x.1,b.emb x.2.1,c.emb x.2.2.1,d.emb x.2.2.2]:=rfl
@[simp] theorem dec_int {k:IntKind} {n:Int}:(Em.int k).dec (.int k n)=some n:=Em.dec_some (by simp [PD.strip])
@[simp] theorem dec_bool {b:Bool}:Em.bool.dec (.bool b)=some b:=Em.dec_some (by simp [PD.strip])
@[simp] theorem dec_text {s:List UInt8}:Em.text.dec (.str s)=some s:=Em.dec_some (by simp [PD.strip])
theorem dec_list {e:Em α} {k s:Nat} {xs:List α} {tok:Tok} (h:xs=[]∨s=k):(e.list k).dec (.slice s (xs.map e.emb) tok)=some xs:=by
 refine Em.dec_some ?_
 cases xs with
 | nil=>simp [PD.strip_slice,sz]
 | cons x xs=>
   have h:s=k:=by simpa using h
   subst h
   simp only [List.map_cons,PD.strip_slice,List.length_cons,Nat.add_one_ne_zero,if_false,e.str,List.map_map,emb_list,sz]
   congr 2
   exact List.map_congr_left fun x _=>e.str x
@[simp] theorem dec_list_sz {e:Em α} {k:Nat} {xs:List α} {tok:Tok}:(e.list k).dec (.slice (sz k xs) (xs.map e.emb) tok)=some xs:=dec_list (by simp)
@[simp] theorem dec_list_k {e:Em α} {k:Nat} {xs:List α} {tok:Tok}:(e.list k).dec (.slice k (xs.map e.emb) tok)=some xs:=dec_list (by simp)
@[simp] theorem dec_list_nil {e:Em α} {k s:Nat} {tok:Tok}:(e.list k).dec (.slice s [] tok)=some []:=dec_list (xs:=[]) (by simp)
open Classical in
noncomputable def gif (c:Prop) (x:Option α):Option α:=if c then x else none
@[simp] theorem gif_pos {c:Prop} {x:Option α} (h:c):gif c x=x:=if_pos h
theorem gif_some {c:Prop} {x:Option α} {y:α} (h:gif c x=some y):c∧x=some y:=by
 unfold gif at h
 split at h
 ·exact ⟨‹_›,h⟩
 ·cases h
noncomputable def gf0 (r:Em β) (F:Option β):List PD→Option PD
 | []=>match F with | some z=>some (r.emb z) | none=>none
 | _=>none
noncomputable def gf1 (a:Em α) (r:Em β) (F:α→Option β):List PD→Option PD
 | [p]=>match a.dec p with
   | some x=>match F x with | some z=>some (r.emb z) | none=>none
   | none=>none
 | _=>none
noncomputable def gf2 (a:Em α) (b:Em β) (r:Em γ) (F:α→β→Option γ):List PD→Option PD
 | [p,q]=>match a.dec p,b.dec q with
   | some x,some y=>match F x y with | some z=>some (r.emb z) | none=>none
   | _,_=>none
 | _=>none
noncomputable def gf3 (a:Em α) (b:Em β) (c:Em γ) (r:Em δ) (F:α→β→γ→Option δ):List PD→Option PD
 | [p,q,s]=>match a.dec p,b.dec q,c.dec s with
   | some x,some y,some u=>match F x y u with | some z=>some (r.emb z) | none=>none
   | _,_,_=>none
 | _=>none
def entry (g:List PD→Option PD):Nat→List PD→List SObj→Option (PD×List SObj):=fun _ args σ=>match g args with | some p=>some (p,σ) | none=>none
variable {P:Program} {E:PExt} {f:FuncId}
def Run (P:Program) (E:PExt) (f:FuncId) (args:List PD) (p:PD):Prop:=∃ p1 σ1,EvC P E 0 (.inl f) args [] p1 σ1∧p1.strip=p
theorem ExtOk.add1 (hE:ExtOk P E) (hP:P.follows .mixedOrders=true) {a:Em α} {r:Em β} {F:α→Option β} (h:∀ x z,F x=some z→Run P E f [a.emb x] (r.emb z)):ExtOk P (E.add f (entry (gf1 a r F))):=by
 refine hE.addFree hP fun args p hg=>?_
 match args,hg with
 | [q],hg=>
   simp only [gf1] at hg
   split at hg
   ·rename_i x hx
    split at hg
    ·rename_i z hz
     simp only [Option.some.injEq] at hg;subst hg
     obtain ⟨p1,σ1,e1,e2⟩:=h x z hz
     have:=Em.of_dec hx
     exact ⟨p1,σ1,by simpa [this] using e1,e2,by simp [this,PD.idfreeL,a.fre],r.fre z⟩
    ·cases hg
   ·cases hg
theorem ExtOk.add2 (hE:ExtOk P E) (hP:P.follows .mixedOrders=true) {a:Em α} {b:Em β} {r:Em γ} {F:α→β→Option γ} (h:∀ x y z,F x y=some z→Run P E f [a.emb x,b.emb y] (r.emb z)) :
  ExtOk P (E.add f (entry (gf2 a b r F))):=by
 refine hE.addFree hP fun args p hg=>?_
 match args,hg with
 | [q,s],hg=>
   simp only [gf2] at hg
   split at hg
   ·rename_i x y hx hy
    split at hg
    ·rename_i z hz
     simp only [Option.some.injEq] at hg;subst hg
     obtain ⟨p1,σ1,e1,e2⟩:=h x y z hz
     have h1:=Em.of_dec hx
     have h2:=Em.of_dec hy
     exact ⟨p1,σ1,by simpa [h1,h2] using e1,e2,by simp [h1,h2,PD.idfreeL,a.fre,b.fre],r.fre z⟩
    ·cases hg
   ·cases hg
theorem Run.of {args:List PD} {p1:PD} {σ1:List SObj} (h:EvC P E 0 (.inl f) args [] p1 σ1):Run P E f args p1.strip:=⟨p1,σ1,h,rfl⟩
end
end Go.Kz

namespace Go.Kz
def pap (P:Program) (fl:Nat) (σ:List SObj) (t:TypeId) (s x:PD):Option (PD×List SObj):=
 match prowAppend P 8 fl σ t s x with
 | some r=>some r
 | none=>pappend P fl σ t s x.strip
def gClone (P:Program) (t:TypeId) (sz:Nat):Nat→List PD→List SObj→Option (PD×List SObj):=fun fl args σ=>match args with
 | [.slice _ [] _]=>some (.slice 0 [] .full,σ)
 | [.slice (n+1) (x::xs) tok]=>pap P fl σ t (.slice sz [] .full) (.slice (n+1) (x::xs) tok)
 | [.rref id ver off n s]=>pap P fl σ t (.slice sz [] .full) (.rref id ver off n s)
 | _=>none
theorem empty_nil_or {c:Cx} {v:Value} {n:Nat} {tok:Tok} (h:VR c v (.slice n [] tok)):VR c v (.slice n [] .nul)∨VR c v (.slice n [] .non):=by
 obtain ⟨A,cap,fl,rfl,a1,a2,a3,a4,a5,a6,a7,a8⟩:=h.inv_slice
 cases A with
 | none=>exact .inl (.slice none _ cap n [] .nul fl rfl a1 a2 a3 a4 a5 a6 a7 ⟨_,_,rfl⟩)
 | some a=>exact .inr (.slice (some a) _ cap n [] .non fl rfl a1 a2 a3 a4 a5 a6 a7 ⟨_,_,_,rfl⟩)
theorem empty_size {c:Cx} {v:Value} {n m:Nat} {tok:Tok} (h:VR c v (.slice n [] tok)) (ht:∀ id,tok≠.own id):VR c v (.slice m [] tok):=by
 obtain ⟨A,cap,fl,rfl,a1,a2,a3,a4,a5,a6,a7,a8⟩:=h.inv_slice
 have hf:fl=[]:=List.eq_nil_of_length_eq_zero (by rw [a4];simp)
 subst hf
 refine .slice A _ cap m [] tok [] rfl a1 a2 (by simp) (by simp) a5 a6 a7 ?_
 cases tok with
 | own id=>exact absurd rfl (ht id)
 | _=>exact a8
theorem vrs1 {c:Cx} {v:Value} {p:PD} (h:VR c v p):VRs c [v] [p]:=⟨rfl,fun i u d h1 h2=>by
 match i with
 | 0=>simp at h1 h2;subst h1;subst h2;exact h
 | i+1=>simp at h1⟩
def cloneCode (t:TypeId):Code:=
 .seq (.region 0 #[{ dst:=some 2,op:=Op.assign (Operand.const (Value.slice none 0 0)),type:=t,pos:= "slices.go:355",after:=#[],guard:=none }] false)
  (.seq (.seq (.region 1 #[{ dst:=some 3,op:=Op.move (Operand.tmp 0),type:=t,pos:= "slices.go:357",after:=#[],guard:=none },
        { dst:=some 4,op:=Op.binOp BinOp.eql t (Operand.tmp 3) (Operand.const (Value.slice none 0 0)) t,type:=4,pos:= "slices.go:357",after:=#[{ on:=0,ground:=Ground.data }],guard:=none }] false)
    (.cond (Operand.tmp 4) (.seq (.region 2 #[{ dst:=some 2,op:=Op.assign (Operand.const (Value.slice none 0 0)),type:=t,pos:= "slices.go:358",after:=#[],guard:=none }] false) .ret) .skip))
   (.seq (.region 3 #[{ dst:=some 5,op:=Op.buildSlice t 0 #[],type:=t,pos:= "slices.go:362",after:=#[],guard:=none },
     { dst:=some 6,op:=Op.move (Operand.tmp 0),type:=t,pos:= "slices.go:362",after:=#[],guard:=none },
     { dst:=some 7,op:=Op.call { callee:=Callee.builtin Builtin.append,args:=#[Operand.tmp 5,Operand.tmp 6],argTypes:=#[t,t] },type:=t,pos:= "slices.go:362",after:=#[{ on:=0,ground:=Ground.data },{ on:=1,ground:=Ground.data }],guard:=none },
     { dst:=some 2,op:=Op.assign (Operand.tmp 7),type:=t,pos:= "slices.go:362",after:=#[{ on:=2,ground:=Ground.data },{ on:=2,ground:=Ground.chain },{ on:=0,ground:=Ground.phase },{ on:=1,ground:=Ground.phase },{ on:=2,ground:=Ground.phase }],guard:=none }] false) .ret))
theorem clone_code {P:Program} {E:PExt} {f t sz:Nat} {e:TypeId} {fn:Func} (hE:E f=none) (hf:P.funcs[f]?=some fn) (hb:fn.body=some (cloneCode t)) (hn:fn.ntmps=8) (hr:fn.results=#[.tmp 2]) (hu:P.underlying t=some (.slice e))
  (hnew:pnewSlice P t 0 []=some (.slice sz [] .full)) {fl:Nat} {σ:List SObj} {s:PD} {r:PD} {σ1:List SObj} (hs:pisnil s=some false) (ha:pap P fl σ t (.slice sz [] .full) s=some (r,σ1)):pcall P E 8 fl (.inl f) [s] σ=some (r,σ1):=by
 have h1:pbin P .eql t s (.slice 0 [] .full)=none:=by
  unfold pisnil at hs
  split at hs
  ·simp [pbin,peq,peqIn,hu]
  ·simp [pbin,peq,peqIn,hu]
  ·simp [pbin,peq,peqIn,hu]
  ·cases hs
 have h2:pnilcmp P .eql t s (.const (.slice none 0 0))=some (.bool false):=by simp [pnilcmp,hu,hs]
 have hm:pmem P fl [s,.tup [],.slice 0 [] .full,s,.bool false,.slice sz [] .full,s,.tup []] σ (Op.call { callee:=Callee.builtin Builtin.append,args:=#[Operand.tmp 5,Operand.tmp 6],argTypes:=#[t,t] })=some (r,σ1):=by
  unfold pap at ha
  simp only [pmem,pevals,peval,List.getD_cons_succ,List.getD_cons_zero,if_true]
  exact ha
 have hbs:∀ fr,pmem P fl fr σ (Op.buildSlice t 0 #[])=some (.slice sz [] .full,σ):=fun fr=>by simp [pmem,pevalParts,hnew]
 simp [pcall,pcallBy,hE,pbody,hf,hb,hn,hr,cloneCode,pcode,pregion,pseq,Region.wanted,pstep,pcallee,pop,pval,pbuiltin,pevals,peval,ofValue,ofCell,pput,h1,h2,hbs,hm,pfinish,dropMarks,presults,presult,ptuple]
theorem clone_nul {P:Program} {E:PExt} {f t:Nat} {e:TypeId} {fn:Func} (hE:E f=none) (hf:P.funcs[f]?=some fn) (hb:fn.body=some (cloneCode t)) (hn:fn.ntmps=8) (hr:fn.results=#[.tmp 2]) (hu:P.underlying t=some (.slice e))
  {fl:Nat} {σ:List SObj} {n:Nat}:pcall P E 8 fl (.inl f) [.slice n [] .nul] σ=some (.slice 0 [] .full,σ):=by
 have h1:pbin P .eql t (.slice n [] .nul) (.slice 0 [] .full)=none:=by simp [pbin,peq,peqIn,hu]
 have h2:pnilcmp P .eql t (.slice n [] .nul) (.const (.slice none 0 0))=some (.bool true):=by simp [pnilcmp,hu,pisnil]
 simp [pcall,pcallBy,hE,pbody,hf,hb,hn,hr,cloneCode,pcode,pregion,pseq,Region.wanted,pstep,pcallee,pop,pval,pbuiltin,pevals,peval,ofValue,ofCell,pput,h1,h2,pfinish,dropMarks,presults,presult,ptuple]
theorem ExtOk.addClone {P:Program} {E:PExt} (hE:ExtOk P E) (hP:P.follows .mixedOrders=true) {f:Nat} (t sz:Nat) (e:TypeId) (hf0:E f=none) (hfn:(P.funcs[f]?).map (fun fn=>(fn.body,fn.ntmps,fn.results))=some (some (cloneCode t),8,#[.tmp 2])) (hu:P.underlying t=some (.slice e))
  (hnew:pnewSlice P t 0 []=some (.slice sz [] .full)) (h1':∀ fl σ n,pap P fl σ t (.slice sz [] .full) (.slice n [] .non)=some (.slice sz [] .full,σ)) :
  ExtOk P (E.add f (gClone P t sz)):=by
 obtain ⟨fn,hf,hb,hn,hr⟩:∃ fn,P.funcs[f]?=some fn∧fn.body=some (cloneCode t)∧fn.ntmps=8∧fn.results=#[.tmp 2]:=by
  cases hx:P.funcs[f]? with
  | none=>rw [hx] at hfn;cases hfn
  | some fn=>
    rw [hx] at hfn
    simp only [Option.map_some,Option.some.injEq,Prod.mk.injEq] at hfn
    exact ⟨fn,rfl,hfn.1,hfn.2.1,hfn.2.2⟩
 intro F fl f' g' args c vs p σ' hF hg hgo hs hX hv
 unfold PExt.add at hg
 split at hg
 ·rename_i e
  subst e
  simp only [Option.some.injEq] at hg;subst hg
  have key:=pcall_ok hE hP hF 8
  unfold gClone at hgo
  split at hgo
  ·rename_i n tok
   simp only [Option.some.injEq,Prod.mk.injEq] at hgo
   obtain ⟨rfl,rfl⟩:=hgo
   match vs,hv.1 with
   | [v],_=>
     have hv0:=hv.2 0 v _ rfl rfl
     rcases empty_nil_or hv0 with hn' | hn'
     ·exact key.fn (clone_nul hf0 hf hb hn hr hu) hs hX (vrs1 hn')
     ·have:=key.fn (clone_code hf0 hf hb hn hr hu hnew (by rfl) (h1' fl c.σ n)) hs hX (vrs1 hn')
      refine ⟨this.1,fun m=>CallsIn.mono (this.2 m) fun e w' he=>?_⟩
      cases e with
      | returned v=>
        obtain ⟨c1,q1,q2,q3,q4,q5,q6⟩:=he
        exact ⟨c1,q1,q2,q3,q4,empty_size q5 (fun id e=>by cases e),q6⟩
      | panicked ch=>exact he.elim
      | outgrown=>exact he.elim
  ·rename_i n x xs tok
   exact key.fn (clone_code hf0 hf hb hn hr hu hnew (by simp [pisnil]) hgo) hs hX hv
  ·rename_i id ver off n s
   exact key.fn (clone_code hf0 hf hb hn hr hu hnew rfl hgo) hs hX hv
  ·cases hgo
 ·exact hE hF hg hgo hs hX hv
end Go.Kz

namespace Go.Kz
section
variable {P:Program} {E:PExt} {rd:Option Nat} {fl:Nat} {fr:List PD} {ms:List Nat} {σ:List SObj} {Q:PO→Prop}
structure Wp (P:Program) (E:PExt) (rd:Option Nat) (c:Code) (fl:Nat) (fr:List PD) (ms:List Nat) (σ:List SObj) (Q:PO→Prop):Prop where
 ex:∃ r,Ev P E rd c fl fr ms σ r∧Q r
def pcallE (E:PExt):PCall
 | fl,.inl f,args,σ=>match E f with
   | some g=>g fl args σ
   | none=>none
 | _,.inr _,_,_=>none
theorem pcallE_up {n:Nat} {tg:FuncId ⊕ Nat} {args:List PD} {x:PD×List SObj} (h:pcallE E fl tg args σ=some x):pcall P E n fl tg args σ=some x:=by
 cases tg with
 | inl f=>
   simp only [pcallE] at h
   simp only [pcall,pcallBy]
   split at h
   ·rename_i g hg;rw [hg];exact h
   ·cases h
 | inr id=>cases h
theorem pstep_up {n:Nat} {op:Op} {x:PD×List SObj} (h:pstep P (pcallE E) fl fr σ op=some x):pstep P (pcall P E n) fl fr σ op=some x:=by
 unfold pstep at *
 split at h
 ·exact pcallE_up h
 ·exact h
theorem pseq_up {n:Nat} {ops:Array Oper}:∀ {l:List Oper} {fr:List PD} {σ:List SObj} {x:List PD×List SObj},pseq P (pcallE E) fl ops l fr σ=some x→pseq P (pcall P E n) fl ops l fr σ=some x
 | [],_,_,_,h=>h
 | o::rest,fr,σ,x,h=>by
   simp only [pseq] at h ⊢
   split at h
   ·rename_i hw
    rw [if_pos hw]
    split at h
    ·rename_i p σ1 hp
     rw [pstep_up hp]
     exact pseq_up h
    ·cases h
   ·rename_i hw
    rw [if_neg hw]
    exact pseq_up h
theorem pdseq_up {n:Nat} {ops:Array Oper}:∀ {l:List (Bool×Oper)} {fr:List PD} {σ:List SObj} {x:List PD×List SObj},pdseq P (pcallE E) fl ops l fr σ=some x→pdseq P (pcall P E n) fl ops l fr σ=some x
 | [],_,_,_,h=>h
 | (free,o)::rest,fr,σ,x,h=>by
   simp only [pdseq] at h ⊢
   split at h
   ·rename_i hw
    rw [if_pos hw]
    cases free with
    | true=>
      simp only at h ⊢
      split at h
      ·rename_i p σ1 hp
       rw [pstep_up hp]
       exact pdseq_up h
      ·cases h
    | false=>
      simp only at h ⊢
      split at h
      ·rename_i p σ1 hp
       rw [pstep_up hp]
       exact pdseq_up h
      ·cases h
   ·rename_i hw
    rw [if_neg hw]
    exact pdseq_up h
theorem Wp.mono {c:Code} {Q':PO→Prop} (h:Wp P E rd c fl fr ms σ Q) (k:∀ r,Q r→Q' r):Wp P E rd c fl fr ms σ Q':=by
 obtain ⟨r,h1,h2⟩:=h.ex
 exact ⟨r,h1,k r h2⟩
theorem Wp.skip (h:Q ⟨.normal,fr,ms,σ⟩):Wp P E rd .skip fl fr ms σ Q:=⟨_,.skip,h⟩
theorem Wp.ret (h:Q ⟨.ret,fr,ms,σ⟩):Wp P E rd .ret fl fr ms σ Q:=⟨_,.ret,h⟩
theorem Wp.exit {id:Nat} (h:Q ⟨.exit id,fr,ms,σ⟩):Wp P E rd (.exit id) fl fr ms σ Q:=⟨_,.exit,h⟩
structure SeqQ (P:Program) (E:PExt) (rd:Option Nat) (y:Code) (fl:Nat) (Q:PO→Prop) (r:PO):Prop where
 nx:r.x=.normal→Wp P E rd y fl r.fr r.ms r.σ Q
 out:r.x≠.normal→Q r
theorem Wp.seq {x y:Code} (h:Wp P E rd x fl fr ms σ (SeqQ P E rd y fl Q)):Wp P E rd (.seq x y) fl fr ms σ Q:=by
 obtain ⟨⟨x1,fr1,ms1,σ1⟩,h1,h2⟩:=h.ex
 cases x1 with
 | normal=>
   obtain ⟨r2,h3,h4⟩:=(h2.nx rfl).ex
   exact ⟨r2,.seq h1 h3,h4⟩
 | ret=>exact ⟨_,.seq_out h1 (by simp),h2.out (by simp)⟩
 | exit k=>exact ⟨_,.seq_out h1 (by simp),h2.out (by simp)⟩
theorem SeqQ.normal {y:Code} (h:Wp P E rd y fl fr ms σ Q):SeqQ P E rd y fl Q ⟨.normal,fr,ms,σ⟩:=⟨fun _=>h,fun e=>absurd rfl e⟩
theorem SeqQ.ret {y:Code} (h:Q ⟨.ret,fr,ms,σ⟩):SeqQ P E rd y fl Q ⟨.ret,fr,ms,σ⟩:=⟨fun e=>(by cases e),fun _=>h⟩
theorem SeqQ.exit {y:Code} {k:Nat} (h:Q ⟨.exit k,fr,ms,σ⟩):SeqQ P E rd y fl Q ⟨.exit k,fr,ms,σ⟩:=⟨fun e=>(by cases e),fun _=>h⟩
theorem Wp.cond {g:Operand} {x y:Code} {b:Bool} (hg:peval fr g=some (.bool b)) (h1:b=true→Wp P E rd x fl fr ms σ Q) (h2:b=false→Wp P E rd y fl fr ms σ Q):Wp P E rd (.cond g x y) fl fr ms σ Q:=by
 cases b with
 | true=>obtain ⟨r,e1,e2⟩:=(h1 rfl).ex;exact ⟨r,.cond hg e1,e2⟩
 | false=>obtain ⟨r,e1,e2⟩:=(h2 rfl).ex;exact ⟨r,.cond hg e1,e2⟩
theorem Wp.cond_true {g:Operand} {x y:Code} (hg:peval fr g=some (.bool true)) (h1:Wp P E rd x fl fr ms σ Q):Wp P E rd (.cond g x y) fl fr ms σ Q:=.cond hg (fun _=>h1) (fun h=>by cases h)
theorem Wp.cond_false {g:Operand} {x y:Code} (hg:peval fr g=some (.bool false)) (h1:Wp P E rd y fl fr ms σ Q):Wp P E rd (.cond g x y) fl fr ms σ Q:=.cond hg (fun h=>by cases h) (fun _=>h1)
structure BlockQ (id:Nat) (Q:PO→Prop) (r:PO):Prop where
 out:∀ k,r.x=.exit k→Q ⟨if k=id then .normal else .exit k,r.fr,r.ms,r.σ⟩
 on:(∀ k,r.x≠.exit k)→Q r
theorem Wp.block {id:Nat} {b:Code} (h:Wp P E rd b fl fr ms σ (BlockQ id Q)):Wp P E rd (.block id b) fl fr ms σ Q:=by
 obtain ⟨⟨x1,fr1,ms1,σ1⟩,h1,h2⟩:=h.ex
 cases x1 with
 | normal=>exact ⟨_,.block_other h1 (by simp),h2.on (by simp)⟩
 | ret=>exact ⟨_,.block_other h1 (by simp),h2.on (by simp)⟩
 | exit k=>exact ⟨_,.block h1,h2.out k rfl⟩
theorem BlockQ.normal {id:Nat} (h:Q ⟨.normal,fr,ms,σ⟩):BlockQ id Q ⟨.normal,fr,ms,σ⟩:=⟨fun _ e=>(by cases e),fun _=>h⟩
theorem BlockQ.ret {id:Nat} (h:Q ⟨.ret,fr,ms,σ⟩):BlockQ id Q ⟨.ret,fr,ms,σ⟩:=⟨fun _ e=>(by cases e),fun _=>h⟩
theorem BlockQ.here {id:Nat} (h:Q ⟨.normal,fr,ms,σ⟩):BlockQ id Q ⟨.exit id,fr,ms,σ⟩:=
 ⟨fun k e=>by simp only [PX.exit.injEq] at e;subst e;rw [if_pos rfl];exact h,fun e=>absurd rfl (e id)⟩
theorem BlockQ.there {id k:Nat} (hk:k≠id) (h:Q ⟨.exit k,fr,ms,σ⟩):BlockQ id Q ⟨.exit k,fr,ms,σ⟩:=
 ⟨fun k' e=>by simp only [PX.exit.injEq] at e;subst e;rw [if_neg hk];exact h,fun e=>absurd rfl (e k)⟩
structure LoopQ (P:Program) (E:PExt) (rd:Option Nat) (b:Code) (fl:Nat) (Q:PO→Prop) (r:PO):Prop where
 nx:r.x=.normal→Wp P E rd (.loop b) fl r.fr r.ms r.σ Q
 out:r.x≠.normal→Q r
theorem Wp.loop {b:Code} (h:Wp P E rd b fl fr ms σ (LoopQ P E rd b fl Q)):Wp P E rd (.loop b) fl fr ms σ Q:=by
 obtain ⟨⟨x1,fr1,ms1,σ1⟩,h1,h2⟩:=h.ex
 cases x1 with
 | normal=>
   obtain ⟨r2,h3,h4⟩:=(h2.nx rfl).ex
   exact ⟨r2,.loop h1 h3,h4⟩
 | ret=>exact ⟨_,.loop_out h1 (by simp),h2.out (by simp)⟩
 | exit k=>exact ⟨_,.loop_out h1 (by simp),h2.out (by simp)⟩
theorem LoopQ.normal {b:Code} (h:Wp P E rd (.loop b) fl fr ms σ Q):LoopQ P E rd b fl Q ⟨.normal,fr,ms,σ⟩:=⟨fun _=>h,fun e=>absurd rfl e⟩
theorem LoopQ.ret {b:Code} (h:Q ⟨.ret,fr,ms,σ⟩):LoopQ P E rd b fl Q ⟨.ret,fr,ms,σ⟩:=⟨fun e=>(by cases e),fun _=>h⟩
theorem LoopQ.exit {b:Code} {k:Nat} (h:Q ⟨.exit k,fr,ms,σ⟩):LoopQ P E rd b fl Q ⟨.exit k,fr,ms,σ⟩:=⟨fun e=>(by cases e),fun _=>h⟩
theorem Wp.region {id:Nat} {ops:Array Oper} {fr1:List PD} {σ1:List SObj} (h:pseq P (pcallE E) fl ops ops.toList fr σ=some (fr1,σ1)) (k:Q ⟨.normal,fr1,ms,σ1⟩):Wp P E rd (.region id ops false) fl fr ms σ Q:=
 ⟨_,.region (N:=0) (fun _ _=>pseq_up h),k⟩
theorem Wp.draw {id:Nat} {ops:Array Oper} {fr1:List PD} {σ1:List SObj} (hs:staticOk ops=true) (h:pdseq P (pcallE E) fl ops (flags ops 0 ops.toList) fr σ=some (fr1,σ1)) (k:Q ⟨.normal,fr1,ms,σ1⟩) :
  Wp P E rd (.region id ops true) fl fr ms σ Q:=
 ⟨_,.draw (N:=0) (fun _ _=>by rw [pdraw_static hs];exact pdseq_up h),k⟩
theorem Run.body {f:FuncId} {fn:Func} {c:Code} {args:List PD} {p:PD} (hE:E f=none) (hf:P.funcs[f]?=some fn) (hb:fn.body=some c)
  (h:Wp P E none c 0 (args++List.replicate (fn.ntmps - args.length) (.tup [])) [] [] (fun r=>∃ p1 σ1,pfinish P 0 fn r=some (p1,σ1)∧p1.strip=p)):Run P E f args p:=by
 obtain ⟨r,h1,p1,σ1,h2,h3⟩:=h.ex
 exact ⟨p1,σ1,.body hE hf hb h1 h2,h3⟩
end
theorem wrap_i64 {x:Int} (h:-9223372036854775808≤x) (h':x≤9223372036854775807):IntKind.i64.wrap x=x:=by
 simp [IntKind.wrap,IntKind.min,IntKind.max,IntKind.signed,IntKind.bits]
 try omega
theorem wrap_u64 {x:Int} (h:0≤x) (h':x≤18446744073709551615):IntKind.u64.wrap x=x:=by
 simp [IntKind.wrap,IntKind.min,IntKind.max,IntKind.signed,IntKind.bits]
 try omega
end Go.Kz

namespace Go.Kz
attribute [simp] pseq pdseq flags Region.wanted pyield pstep pcallee pop pval pload peval pput pevals pbuiltin ofValue ofCell ofCells shapeMove PD.cells pcallE pevalParts pindexed
attribute [simp] PD.plain PD.setCells pfillAt pun pagg pfinish dropMarks presults presult ptuple pfieldAddr pfield pplaces pfill pstr pmin
attribute [simp] PD.strip PD.stripL pbuild pstore pconv pcopies pbytes
@[simp] theorem stripL_map {α:Type} {e:Em α} {xs:List α}:PD.stripL (xs.map e.emb)=xs.map e.emb:=by
  rw [PD.stripL_map,List.map_map]
  exact List.map_congr_left fun x _=>e.str x
@[simp] theorem strip_slice_map {α:Type} {e:Em α} {k:Nat} {xs:List α} {tok:Tok}:(PD.slice k (xs.map e.emb) tok).strip=.slice (sz k xs) (xs.map e.emb) .any:=by
  cases xs with
  | nil=>simp [PD.strip,sz]
  | cons x xs=>simp [PD.strip,sz,e.str]
@[simp] theorem strip_slice_sz {α:Type} {e:Em α} {k:Nat} {xs:List α} {tok:Tok}:(PD.slice (sz k xs) (xs.map e.emb) tok).strip=.slice (sz k xs) (xs.map e.emb) .any:=by
  cases xs with
  | nil=>simp [PD.strip,sz]
  | cons x xs=>simp [PD.strip,sz,e.str]
@[simp] theorem strip_emb {α:Type} {e:Em α} {x:α}:(e.emb x).strip=e.emb x:=e.str x
section
variable {P:Program} {t:TypeId} {k k':IntKind} {a b:Int} {op:BinOp}
@[simp] theorem pbin_add:pbin P .add t (.int k a) (.int k' b)=if k=k' then pint .add k a b else none:=rfl
@[simp] theorem pbin_sub:pbin P .sub t (.int k a) (.int k' b)=if k=k' then pint .sub k a b else none:=rfl
@[simp] theorem pbin_mul:pbin P .mul t (.int k a) (.int k' b)=if k=k' then pint .mul k a b else none:=rfl
@[simp] theorem pbin_quo:pbin P .quo t (.int k a) (.int k' b)=if k=k' then pint .quo k a b else none:=rfl
@[simp] theorem pbin_rem:pbin P .rem t (.int k a) (.int k' b)=if k=k' then pint .rem k a b else none:=rfl
@[simp] theorem pbin_eql:pbin P .eql t (.int k a) (.int k' b)=if k=k' then pint .eql k a b else none:=rfl
@[simp] theorem pbin_neq:pbin P .neq t (.int k a) (.int k' b)=if k=k' then pint .neq k a b else none:=rfl
@[simp] theorem pbin_lss:pbin P .lss t (.int k a) (.int k' b)=if k=k' then pint .lss k a b else none:=rfl
@[simp] theorem pbin_leq:pbin P .leq t (.int k a) (.int k' b)=if k=k' then pint .leq k a b else none:=rfl
@[simp] theorem pbin_gtr:pbin P .gtr t (.int k a) (.int k' b)=if k=k' then pint .gtr k a b else none:=rfl
@[simp] theorem pbin_geq:pbin P .geq t (.int k a) (.int k' b)=if k=k' then pint .geq k a b else none:=rfl
@[simp] theorem pbin_and:pbin P .and t (.int k a) (.int k' b)=if k=k' then pint .and k a b else none:=rfl
@[simp] theorem pbin_or:pbin P .or t (.int k a) (.int k' b)=if k=k' then pint .or k a b else none:=rfl
@[simp] theorem pbin_xor:pbin P .xor t (.int k a) (.int k' b)=if k=k' then pint .xor k a b else none:=rfl
@[simp] theorem pbin_andNot:pbin P .andNot t (.int k a) (.int k' b)=if k=k' then pint .andNot k a b else none:=rfl
@[simp] theorem pbin_shl:pbin P .shl t (.int k a) (.int k' b)=pshift .shl k a b:=rfl
@[simp] theorem pbin_shr:pbin P .shr t (.int k a) (.int k' b)=pshift .shr k a b:=rfl
@[simp] theorem pbin_str {x y:List UInt8}:pbin P op t (.str x) (.str y)=pstr op x y:=rfl
theorem pbin_eql_of {x y:PD} {c:Bool} (h1:∀ k a k' b,¬ (x=.int k a∧y=.int k' b)) (h2:∀ a b,¬ (x=.str a∧y=.str b)) (h:peqIn P 12 t x y=some c) (h3:∀ xs ys,¬ (x=.agg xs∧y=.agg ys)):pbin P .eql t x y=some (.bool c):=by
 unfold pbin peq
 split
 ·exact absurd ⟨rfl,rfl⟩ (h1 _ _ _ _)
 ·exact absurd ⟨rfl,rfl⟩ (h2 _ _)
 ·simp only
  split
  ·rename_i b hb
   split at hb
   ·exact absurd ⟨rfl,rfl⟩ (h3 _ _)
   ·rw [h] at hb;rw [Option.some.inj hb]
  ·rename_i hb
   split at hb
   ·exact absurd ⟨rfl,rfl⟩ (h3 _ _)
   ·rw [h] at hb;cases hb
theorem pbin_neq_of {x y:PD} {c:Bool} (h1:∀ k a k' b,¬ (x=.int k a∧y=.int k' b)) (h2:∀ a b,¬ (x=.str a∧y=.str b)) (h:peqIn P 12 t x y=some c) (h3:∀ xs ys,¬ (x=.agg xs∧y=.agg ys)):pbin P .neq t x y=some (.bool (!c)):=by
 unfold pbin peq
 split
 ·exact absurd ⟨rfl,rfl⟩ (h1 _ _ _ _)
 ·exact absurd ⟨rfl,rfl⟩ (h2 _ _)
 ·simp only
  split
  ·rename_i b hb
   split at hb
   ·exact absurd ⟨rfl,rfl⟩ (h3 _ _)
   ·rw [h] at hb;rw [Option.some.inj hb]
  ·rename_i hb
   split at hb
   ·exact absurd ⟨rfl,rfl⟩ (h3 _ _)
   ·rw [h] at hb;cases hb
@[simp] theorem pbin_eql_bool {x y:Bool} (hu:P.underlying t=some .bool):pbin P .eql t (.bool x) (.bool y)=some (.bool (decide (x=y))):=
  pbin_eql_of (by simp) (by simp) (by unfold peqIn;simp only [hu];cases x <;> cases y <;> rfl) (by simp)
@[simp] theorem pbin_neq_bool {x y:Bool} (hu:P.underlying t=some .bool):pbin P .neq t (.bool x) (.bool y)=some (.bool (!decide (x=y))):=
  pbin_neq_of (by simp) (by simp) (by unfold peqIn;simp only [hu];cases x <;> cases y <;> rfl) (by simp)
section
variable {e:TypeId} {i o:Nat} {cs:List PD}
@[simp] theorem pbin_eql_nn (hu:P.underlying t=some (.pointer e)):pbin P .eql t .nilptr .nilptr=some (.bool true):=pbin_eql_of (by simp) (by simp) (by unfold peqIn;simp only [hu]) (by simp)
@[simp] theorem pbin_eql_pn (hu:P.underlying t=some (.pointer e)):pbin P .eql t (.ptr i o) .nilptr=some (.bool false):=pbin_eql_of (by simp) (by simp) (by unfold peqIn;simp only [hu]) (by simp)
@[simp] theorem pbin_eql_np (hu:P.underlying t=some (.pointer e)):pbin P .eql t .nilptr (.ptr i o)=some (.bool false):=pbin_eql_of (by simp) (by simp) (by unfold peqIn;simp only [hu]) (by simp)
@[simp] theorem pbin_eql_en (hu:P.underlying t=some (.pointer e)):pbin P .eql t (.eptr cs o) .nilptr=some (.bool false):=pbin_eql_of (by simp) (by simp) (by unfold peqIn;simp only [hu]) (by simp)
@[simp] theorem pbin_neq_nn (hu:P.underlying t=some (.pointer e)):pbin P .neq t .nilptr .nilptr=some (.bool false):=pbin_neq_of (c:=true) (by simp) (by simp) (by unfold peqIn;simp only [hu]) (by simp)
@[simp] theorem pbin_neq_pn (hu:P.underlying t=some (.pointer e)):pbin P .neq t (.ptr i o) .nilptr=some (.bool true):=pbin_neq_of (c:=false) (by simp) (by simp) (by unfold peqIn;simp only [hu]) (by simp)
@[simp] theorem pbin_neq_np (hu:P.underlying t=some (.pointer e)):pbin P .neq t .nilptr (.ptr i o)=some (.bool true):=pbin_neq_of (c:=false) (by simp) (by simp) (by unfold peqIn;simp only [hu]) (by simp)
@[simp] theorem pbin_neq_en (hu:P.underlying t=some (.pointer e)):pbin P .neq t (.eptr cs o) .nilptr=some (.bool true):=pbin_neq_of (c:=false) (by simp) (by simp) (by unfold peqIn;simp only [hu]) (by simp)
end
end
section
variable {k:IntKind} {x y:Int}
@[simp] theorem pint_add:pint .add k x y=some (.int k (k.wrap (x+y))):=rfl
@[simp] theorem pint_sub:pint .sub k x y=some (.int k (k.wrap (x - y))):=rfl
@[simp] theorem pint_mul:pint .mul k x y=some (.int k (k.wrap (x*y))):=rfl
@[simp] theorem pint_quo:pint .quo k x y=if y=0 then none else some (.int k (k.wrap (x.tdiv y))):=rfl
@[simp] theorem pint_rem:pint .rem k x y=if y=0 then none else some (.int k (x.tmod y)):=rfl
@[simp] theorem pint_eql:pint .eql k x y=some (.bool (decide (x=y))):=rfl
@[simp] theorem pint_neq:pint .neq k x y=some (.bool (!decide (x=y))):=rfl
@[simp] theorem pint_lss:pint .lss k x y=some (.bool (decide (x < y))):=rfl
@[simp] theorem pint_leq:pint .leq k x y=some (.bool (decide (x≤y))):=rfl
@[simp] theorem pint_gtr:pint .gtr k x y=some (.bool (decide (x > y))):=rfl
@[simp] theorem pint_geq:pint .geq k x y=some (.bool (decide (x ≥ y))):=rfl
@[simp] theorem pint_and:pint .and k x y=(match pbits .and k x y with | some z=>some (.int k z) | none=>none):=rfl
@[simp] theorem pint_or:pint .or k x y=(match pbits .or k x y with | some z=>some (.int k z) | none=>none):=rfl
@[simp] theorem pint_xor:pint .xor k x y=(match pbits .xor k x y with | some z=>some (.int k z) | none=>none):=rfl
@[simp] theorem pint_andNot:pint .andNot k x y=(match pbits .andNot k x y with | some z=>some (.int k z) | none=>none):=rfl
end
section
variable {P:Program} {fl:Nat} {fr:List PD} {σ:List SObj}
@[simp] theorem pmem_loadE {t:TypeId} {x:Operand}:pmem P fl fr σ (.load t x)=(match peval fr x with
  | some a=>(match pload P σ t a with | some p=>some (p,σ) | none=>none)
  | none=>none):=rfl
@[simp] theorem pmem_storeE {t:TypeId} {x y:Operand}:pmem P fl fr σ (.store t x y)=(match peval fr x,peval fr y with
  | some a,some p=>(match pstore P fl σ t a p with | some σ'=>some (.tup [],σ') | none=>none)
  | _,_=>none):=rfl
@[simp] theorem pmem_boxE {t:TypeId} {x:Operand}:pmem P fl fr σ (.box t x)=(match peval fr x with
  | some p=>if p.cells.all PD.plain then some (.ptr σ.length 0,σ++[.box p]) else none
  | none=>none):=rfl
@[simp] theorem boxed_agg {t:TypeId} {cs:List PD}:boxed t (.agg cs)=if tboxed t=true then .typed t (cs.map nilled) else .agg cs:=rfl
@[simp] theorem nilled_slice:nilled (.slice 0 [] .full)=.slice 0 [] .nil:=rfl
@[simp] theorem nilled_nilptr:nilled .nilptr=.nilptr:=rfl
@[simp] theorem nilled_int {k:IntKind} {n:Int}:nilled (.int k n)=.int k n:=rfl
@[simp] theorem nilled_str {s:List UInt8}:nilled (.str s)=.str s:=rfl
@[simp] theorem boxed_int {t:TypeId} {k:IntKind} {n:Int}:boxed t (.int k n)=.int k n:=rfl
@[simp] theorem boxed_bool {t:TypeId} {b:Bool}:boxed t (.bool b)=.bool b:=rfl
@[simp] theorem boxed_str {t:TypeId} {s:List UInt8}:boxed t (.str s)=.str s:=rfl
@[simp] theorem boxed_slice {t:TypeId} {n:Nat} {xs:List PD} {tok:Tok}:boxed t (.slice n xs tok)=.slice n xs tok:=rfl
@[simp] theorem boxed_nilptr {t:TypeId}:boxed t .nilptr=.nilptr:=rfl
@[simp] theorem boxed_nilfunc {t:TypeId}:boxed t .nilfunc=.nilfunc:=rfl
@[simp] theorem boxed_opq {t:TypeId} {v:Value}:boxed t (.opq v)=.opq v:=rfl
@[simp] theorem pmem_allocE {t:TypeId}:pmem P fl fr σ (.alloc t)=(match pzero P t with
  | some p=>if p.cells.all PD.plain then some (.ptr σ.length 0,σ++[.box (boxed t p)]) else none
  | none=>none):=rfl
@[simp] theorem pmem_buildSliceE {t:TypeId} {len:Nat} {parts:Array (Nat×Operand)}:pmem P fl fr σ (.buildSlice t len parts)=(match pevalParts fr parts.toList with
  | some ps=>(match pnewSlice P t len (ps.map fun q=>(q.1,q.2.strip)) with | some p=>some (p,σ) | none=>none)
  | none=>none):=rfl
@[simp] theorem pmem_appendE {args:Array Operand} {ts:Array TypeId}:pmem P fl fr σ (.call { callee:=.builtin .append,args:=args,argTypes:=ts })=(match pevals fr args.toList,ts.toList with
  | some [s,x],[t,t']=>if t=t' then (match prowAppend P fr.length fl σ t s x with | some r=>some r | none=>pappend P fl σ t s x.strip) else (match P.underlying t',x with
    | some .string,.str l=>if pbyteRow P t=true then (match prowAppend P fr.length fl σ t s (.slice (if l.length=0 then 0 else 1) (l.map fun b=>.int .u8 b.toNat) .any) with | some r=>some r | none=>pappend P fl σ t s (.slice (if l.length=0 then 0 else 1) (l.map fun b=>.int .u8 b.toNat) .any)) else none
    | some (.int .i64),.int .i64 m=>pzeroApp P fr.length σ t s m
    | _,_=>none)
  | _,_=>none):=rfl
def pixRow (n:Nat):PD→Int→Option PD
 | .slice size xs _,i=>if 0≤i then (if (xs.length=0∨n=size)∧0 < n then (match xs[i.toNat]? with | some p=>some (.eptr p.cells 0) | none=>none) else none) else none
 | .sref id off m size,i=>if 0≤i then (if n=size∧i.toNat < m then some (.ptr id (off+i.toNat*n)) else none) else none
 | .rref id ver off m size,i=>if 0≤i then (if n=size∧i.toNat < m then some (.rptr id ver (off+i.toNat*n)) else none) else none
 | _,_=>none
def pixArr (len n:Nat) (x:PD) (i:Int):Option PD:=
 if 0≤i then (if i.toNat < len then (match x with
  | .ptr id off=>some (.ptr id (off+i.toNat*n))
  | .eptr cs off=>some (.eptr cs (off+i.toNat*n))
  | .rptr id ver off=>some (.rptr id ver (off+i.toNat*n))
  | _=>none) else none) else none
@[simp] theorem pindexAddr_E {t:TypeId} {x:PD} {k:IntKind} {i:Int}:pindexAddr P t x (.int k i)=(match P.underlying t with
  | some (.array len e)=>(match psize P e with | some n=>pixArr len n x i | none=>none)
  | some (.slice e)=>(match psize P e with | some n=>pixRow n x i | none=>none)
  | _=>none):=by
  unfold pindexAddr
  by_cases h0:0≤i
  ·cases hu:P.underlying t with
   | none=>simp [h0]
   | some d=>
     cases d <;> simp only [pasNat,h0,if_true,pixArr] <;> try rfl
     rename_i e
     cases psize P e <;> cases x <;> simp only [pixRow,h0,if_true] <;> rfl
  ·cases hu:P.underlying t with
   | none=>simp [h0]
   | some d=>
     cases d <;> simp only [pasNat,h0,if_false,pixArr] <;> try rfl
     all_goals (rename_i e;cases psize P e <;> cases x <;> simp only [pixRow,h0,if_false])
@[simp] theorem pixRow_at {n size:Nat} {xs:List PD} {tok:Tok} {i:Int} (h0:0≤i) (hn0:0 < n) (hs:xs=[]∨n=size) (hi:i.toNat < xs.length):pixRow n (.slice size xs tok) i=some (.eptr xs[i.toNat].cells 0):=by
  have hx:xs.length=0∨n=size:=hs.imp (fun h=>by rw [h];rfl) (fun h=>h)
  simp only [pixRow,h0,hx,hn0,and_self,if_true,List.getElem?_eq_getElem hi]
@[simp] theorem pixRow_sref {n id off m:Nat} {i:Int} (h0:0≤i) (hi:i.toNat < m):pixRow n (.sref id off m n) i=some (.ptr id (off+i.toNat*n)):=by
  simp only [pixRow,h0,hi,and_self,if_true]
@[simp] theorem pixArr_ptr {len n id off:Nat} {i:Int} (h0:0≤i) (hi:i.toNat < len):pixArr len n (.ptr id off) i=some (.ptr id (off+i.toNat*n)):=by
  unfold pixArr;rw [if_pos h0,if_pos hi]
@[simp] theorem pixArr_eptr {len n off:Nat} {cs:List PD} {i:Int} (h0:0≤i) (hi:i.toNat < len):pixArr len n (.eptr cs off) i=some (.eptr cs (off+i.toNat*n)):=by
  unfold pixArr;rw [if_pos h0,if_pos hi]
def pixStr (s:List UInt8) (i:Int):Option PD:=if 0≤i then (match s[i.toNat]? with | some b=>some (.int .u8 b.toNat) | none=>none) else none
@[simp] theorem pixStr_at {s:List UInt8} {i:Int} (h0:0≤i) (hi:i.toNat < s.length):pixStr s i=some (.int .u8 s[i.toNat].toNat):=by
  unfold pixStr;rw [if_pos h0,List.getElem?_eq_getElem hi]
@[simp] theorem pindex_str {t:TypeId} {s:List UInt8} {k:IntKind} {i:Int}:pindex P t (.str s) (.int k i)=(match P.underlying t with
  | some .string=>pixStr s i
  | _=>none):=by
  unfold pindex pixStr
  by_cases h0:0≤i
  ·cases hu:P.underlying t with
   | none=>simp [h0]
   | some d=>cases d <;> simp only [pasNat,h0,if_true] <;> rfl
  ·cases hu:P.underlying t with
   | none=>simp [h0]
   | some d=>cases d <;> simp only [pasNat,h0,if_false] <;> try rfl
@[simp] theorem pindex_agg {t:TypeId} {cs:List PD} {k:IntKind} {i:Int}:pindex P t (.agg cs) (.int k i)=(match P.underlying t with
  | some (.array len e)=>(match psize P e with
    | some n=>if 0≤i then (if i.toNat < len then ppart P e cs (i.toNat*n) else none) else none
    | none=>none)
  | _=>none):=by
  unfold pindex
  by_cases h0:0≤i
  ·cases hu:P.underlying t with
   | none=>simp [pasNat,h0]
   | some d=>cases d <;> simp only [pasNat,h0,if_true] <;> rfl
  ·cases hu:P.underlying t with
   | none=>simp [pasNat,h0]
   | some d=>
     cases d <;> simp only [pasNat,h0,if_false] <;> try rfl
     cases psize P _ <;> rfl
@[simp] theorem pasNat_int {k:IntKind} {i:Int} (h:0≤i):pasNat (some (.int k i))=some i.toNat:=by simp only [pasNat,h,if_true]
def pcut (n l h:Nat):Option (Nat×Nat):=if l≤h∧h≤n then some (l,h) else none
@[simp] theorem pcut_ok {n l h:Nat} (h1:l≤h) (h2:h≤n):pcut n l h=some (l,h):=by simp [pcut,h1,h2]
@[simp] theorem pbounds_nn {n:Nat}:pbounds n none none=some (0,n):=by simp [pbounds]
@[simp] theorem pbounds_ln {n:Nat} {x:Option PD}:pbounds n (some x) none=(match pasNat x with | some l=>pcut n l n | none=>none):=by
  simp only [pbounds,pcut]
  cases pasNat x <;> rfl
@[simp] theorem pbounds_nh {n:Nat} {x:Option PD}:pbounds n none (some x)=(match pasNat x with | some h=>pcut n 0 h | none=>none):=by
  simp only [pbounds,pcut]
  cases pasNat x <;> rfl
@[simp] theorem pbounds_lh {n:Nat} {x y:Option PD}:pbounds n (some x) (some y)=(match pasNat y,pasNat x with | some h,some l=>pcut n l h | _,_=>none):=by
  simp only [pbounds,pcut]
  cases pasNat x <;> cases pasNat y <;> rfl
def pslRow (n size:Nat) (xs:List PD) (tok:Tok) (lh:Option (Nat×Nat)):Option PD:=
 match lh with
 | some (l,h)=>if xs.length=0∨n=size then some (.slice size ((xs.drop l).take (h - l))
      (if h=xs.length then (match tok with | .full=>.full | .own id=>if l=0 then .own id else .any | _=>.any) else .any)) else none
 | none=>none
def pslStr (s:List UInt8) (lh:Option (Nat×Nat)):Option PD:=
 match lh with
 | some (l,h)=>some (.str ((s.drop l).take (h - l)))
 | none=>none
@[simp] theorem pslRow_any {n size l h:Nat} {xs:List PD} (hs:xs=[]∨n=size):pslRow n size xs .any (some (l,h))=some (.slice size ((xs.drop l).take (h - l)) .any):=by
  have hx:xs.length=0∨n=size:=hs.imp (fun h=>by rw [h];rfl) (fun h=>h)
  simp only [pslRow,hx,if_true,ite_self]
@[simp] theorem pslStr_some {s:List UInt8} {l h:Nat}:pslStr s (some (l,h))=some (.str ((s.drop l).take (h - l))):=rfl
@[simp] theorem pslice_str {t:TypeId} {s:List UInt8} {lo hi:Option (Option PD)}:pslice P t (.str s) lo hi none=(match P.underlying t with
  | some .string=>pslStr s (pbounds s.length lo hi)
  | _=>none):=by
  unfold pslice pslStr
  cases hu:P.underlying t with
  | none=>rfl
  | some d=>cases d <;> simp only [Option.isSome_none,Bool.false_eq_true,if_false] <;> rfl
@[simp] theorem pslice_row {t:TypeId} {size:Nat} {xs:List PD} {tok:Tok} {lo hi:Option (Option PD)}:pslice P t (.slice size xs tok) lo hi none=(match P.underlying t with
  | some (.slice e)=>(match psize P e with | some n=>pslRow n size xs tok (pbounds xs.length lo hi) | none=>none)
  | _=>none):=by
  unfold pslice pslRow
  cases hu:P.underlying t with
  | none=>rfl
  | some d=>
    cases d <;> simp only <;> try rfl
    cases psize P _ <;> simp only
    cases pbounds xs.length lo hi <;> simp only
    split <;> rfl
@[simp] theorem pslice_sref {t:TypeId} {id off m size:Nat} {lo hi:Option (Option PD)}:pslice P t (.sref id off m size) lo hi none=(match P.underlying t with
  | some (.slice e)=>(match psize P e with | some n=>(match pbounds m lo hi with | some (l,h)=>if n=size∧(l=0∨l < m) then some (.sref id (off+l*n) (h - l) n) else none | none=>none) | none=>none)
  | _=>none):=by
  unfold pslice
  cases hu:P.underlying t with
  | none=>rfl
  | some d=>
    cases d <;> simp only <;> try rfl
    cases psize P _ <;> simp only
    cases pbounds m lo hi <;> simp only
@[simp] theorem pslice_arr {t:TypeId} {id off:Nat} {lo hi:Option (Option PD)}:pslice P t (.ptr id off) lo hi none=(match P.underlying t with
  | some (.array len e)=>(match psize P e with | some n=>(match pbounds len lo hi with | some (l,h)=>if len≤1000000∧(l=0∨l < len) then some (.sref id (off+l*n) (h - l) n) else none | none=>none) | none=>none)
  | _=>none):=by
  unfold pslice
  cases hu:P.underlying t with
  | none=>rfl
  | some d=>
    cases d <;> simp only <;> try rfl
    cases psize P _ <;> simp only
    cases pbounds _ lo hi <;> simp only
end
section
variable {α:Type}
def St (B:List SObj) (e:TypeId) (k n:Nat):List SObj:=B++(if n=0 then [] else [.own e k n])
def outTok (id n:Nat):Tok:=if n=0 then .full else .own id
@[simp] theorem St_get {B:List SObj} {e:TypeId} {k n i:Nat} (h:i < B.length):(St B e k n)[i]?=B[i]?:=by
  unfold St
  rw [List.getElem?_append_left h]
@[simp] theorem St_set {B:List SObj} {e:TypeId} {k n i:Nat} {o:SObj} (h:i < B.length):(St B e k n).set i o=St (B.set i o) e k n:=by
  unfold St
  rw [List.set_append_left _ _ h]
@[simp] theorem St_zero {B:List SObj} {e:TypeId} {k:Nat}:St B e k 0=B:=by simp [St]
@[simp] theorem outTok_zero {id:Nat}:outTok id 0=.full:=rfl
theorem pappend_St {P:Program} {fl:Nat} {B:List SObj} {t e:TypeId} {i:TypeInfo} {z:Value} {n s:Nat} {xs:List PD} {p:PD} {tk:Tok} (hu:P.underlying t=some (.slice e)) (hi:P.info? e=some i) (hz:i.zero=some z) (hzs:z.cells.size=i.size)
  (h0:0 < i.size) (hs:xs=[]∨s=i.size) (hn:xs.length=n) (hfl:fl≤B.length) (hm:xs.length+1≤maxLen) (hb:(xs.length+1)*i.bytes≤140737488355328) :
  pappend P fl (St B e i.size n) t (.slice s xs (outTok B.length n)) (.slice i.size [p] tk)=some (.slice i.size (xs++[p]) (outTok B.length (n+1)),St B e i.size (n+1)):=by
 subst hn
 have hs':xs.length=0∨s=i.size:=hs.imp (fun h=>by rw [h];rfl) (fun h=>h)
 have h1:[p].length=1:=rfl
 simp only [pappend,hu,hi,hz,h1,hs',h0,hzs,hm,hb,or_true,and_self,if_true,Nat.one_ne_zero,if_false]
 cases xs with
 | nil=>simp [outTok,St]
 | cons x xs=>
   have hs2:s=i.size:=by simpa using hs
   subst hs2
   simp [outTok,St,hfl]
def pelem (P:Program) (e:TypeId):Option (Nat×Nat):=match P.info? e with
 | some i=>match i.zero with
   | some z=>if z.cells.size=i.size∧0 < i.size then some (i.size,i.bytes) else none
   | none=>none
 | none=>none
theorem pappend_out {P:Program} {fl:Nat} {B:List SObj} {t e:TypeId} {k b n s id:Nat} {xs:List PD} {p:PD} {tk:Tok} (hu:P.underlying t=some (.slice e)) (hi:pelem P e=some (k,b))
  (hs:xs=[]∨s=k) (hn:xs.length=n) (hid:id=B.length) (hfl:fl≤B.length) (hm:xs.length+1≤maxLen) (hb:(xs.length+1)*b≤140737488355328) :
  pappend P fl (St B e k n) t (.slice s xs (outTok id n)) (.slice k [p] tk)=some (.slice k (xs++[p]) (outTok id (n+1)),St B e k (n+1)):=by
 unfold pelem at hi
 split at hi
 ·rename_i i h1
  split at hi
  ·rename_i z h2
   split at hi
   ·rename_i h3
    simp only [Option.some.injEq,Prod.mk.injEq] at hi
    obtain ⟨rfl,rfl⟩:=hi
    subst hid
    exact pappend_St hu h1 h2 h3.1 h3.2 hs hn hfl hm hb
   ·cases hi
  ·cases hi
 ·cases hi
attribute [simp] ppart
def pfits (P:Program) (e:TypeId) (k n:Nat):Prop:=match pelem P e with
 | some (k',b)=>k'=k∧n*b≤140737488355328
 | none=>False
attribute [simp] pfits
@[simp] theorem pappend_outS {P:Program} {fl:Nat} {B:List SObj} {t e:TypeId} {k n s id:Nat} {xs:List PD} {p:PD} {tk:Tok} (hu:P.underlying t=some (.slice e)) (hi:pfits P e k (xs.length+1))
  (hs:xs=[]∨s=k) (hn:n=xs.length) (hid:id=B.length) (hfl:fl≤B.length) (hm:xs.length+1≤100000000000000) :
  pappend P fl (St B e k n) t (.slice s xs (outTok id n)) (.slice k [p] tk)=some (.slice k (xs++[p]) (outTok id (n+1)),St B e k (n+1)):=by
  unfold pfits at hi
  split at hi
  ·rename_i k' b h1
   obtain ⟨rfl,h2⟩:=hi
   exact pappend_out hu h1 hs hn.symm hid hfl (by simp only [maxLen];omega) h2
  ·cases hi
attribute [simp] pnewSlice
end
end Go.Kz

namespace Go.Kz
section
variable {P:Program} {E:PExt} {rd:Option Nat} {fl:Nat} {fr:List PD} {ms:List Nat} {σ:List SObj} {Q:PO→Prop} {ops:Array Oper}
structure WpC (P:Program) (E:PExt) (fl:Nat) (f:FuncId ⊕ Nat) (args:List PD) (σ:List SObj) (R:PD→List SObj→Prop):Prop where
 ex:∃ p σ',EvC P E fl f args σ p σ'∧R p σ'
theorem WpC.mono {f:FuncId ⊕ Nat} {args:List PD} {R R':PD→List SObj→Prop} (h:WpC P E fl f args σ R) (k:∀ p σ',R p σ'→R' p σ'):WpC P E fl f args σ R':=by
 obtain ⟨p,σ',h1,h2⟩:=h.ex
 exact ⟨p,σ',h1,k _ _ h2⟩
theorem WpC.of {f:FuncId ⊕ Nat} {args:List PD} {R:PD→List SObj→Prop} {p:PD} {σ':List SObj} (h:EvC P E fl f args σ p σ') (k:R p σ'):WpC P E fl f args σ R:=⟨p,σ',h,k⟩
structure WpO (P:Program) (E:PExt) (fl:Nat) (ops:Array Oper) (l:List (Bool×Oper)) (fr:List PD) (σ:List SObj) (R:List PD→List SObj→Prop):Prop where
 ex:∃ N fr' σ',(∀ n,N≤n→pdseq P (pcall P E n) fl ops l fr σ=some (fr',σ'))∧R fr' σ'
theorem pdseq_append {call:PCall}:∀ (l l':List (Bool×Oper)) (fr:List PD) (σ:List SObj),pdseq P call fl ops (l++l') fr σ=(match pdseq P call fl ops l fr σ with | some (fr1,σ1)=>pdseq P call fl ops l' fr1 σ1 | none=>none)
 | [],_,_,_=>rfl
 | (free,o)::l,l',fr,σ=>by
   simp only [List.cons_append,pdseq]
   split
   ·cases free with
    | true=>
      simp only
      cases pstep P call fl fr σ o.op with
      | none=>rfl
      | some q=>obtain ⟨p,σ'⟩:=q;simp only;exact pdseq_append l l' _ _
    | false=>
      simp only
      cases pstep P call (max fl σ.length) fr σ o.op with
      | none=>rfl
      | some q=>obtain ⟨p,σ'⟩:=q;simp only;exact pdseq_append l l' _ _
   ·exact pdseq_append l l' _ _
theorem WpO.nil {R:List PD→List SObj→Prop} (h:R fr σ):WpO P E fl ops [] fr σ R:=⟨0,fr,σ,fun _ _=>rfl,h⟩
theorem WpO.take (k:Nat) {l:List (Bool×Oper)} {R:List PD→List SObj→Prop} {fr1:List PD} {σ1:List SObj} (h:pdseq P (pcallE E) fl ops (l.take k) fr σ=some (fr1,σ1)) (h2:WpO P E fl ops (l.drop k) fr1 σ1 R):WpO P E fl ops l fr σ R:=by
 obtain ⟨N,fr',σ',h3,h4⟩:=h2.ex
 refine ⟨N,fr',σ',fun n hn=>?_,h4⟩
 rw [← List.take_append_drop k l,pdseq_append,pdseq_up h]
 exact h3 n hn
theorem WpO.call {l:List (Bool×Oper)} {o:Oper} {R:List PD→List SObj→Prop} {tg:FuncId ⊕ Nat} {args:List PD} (hw:Region.wanted o (pyield ops fr)=true) (hc:pcallee fr o.op=some (tg,args))
  (h:WpC P E fl tg args σ (fun p σ1=>WpO P E fl ops l (pput fr o.dst p) σ1 R)):WpO P E fl ops ((true,o)::l) fr σ R:=by
 obtain ⟨p,σ1,⟨N,h1⟩,h2⟩:=h.ex
 obtain ⟨M,fr',σ',h3,h4⟩:=h2.ex
 refine ⟨max N M,fr',σ',fun n hn=>?_,h4⟩
 simp only [pdseq,hw,if_true,pstep,hc,h1 n (by omega)]
 exact h3 n (by omega)
theorem WpC.round {id:Nat} {args:List PD} {R:PD→List SObj→Prop} {fr0:List PD} {ps:List Tmp} {assign body:Code} (hfl:fl≤id) (h0:σ[id]?=some (.loop .ready fr0 ps assign body)) (hl:args.length=ps.length)
  (h:Wp P E (some id) assign fl (pargs fr0 ps args) [] σ (fun r=>r.x=.normal∧∃ fr1 ps1 as1 bd1,r.σ[id]?=some (.loop .ready fr1 ps1 as1 bd1) ∧
   Wp P E (some id) body fl r.fr r.ms (r.σ.set id (.loop .busy fr1 ps1 as1 bd1)) (fun r2=>∃ fr3 ps3 as3 bd3,r2.σ[id]?=some (.loop .busy fr3 ps3 as3 bd3) ∧
    (match r2.x with
     | .normal=>R (.bool true) (r2.σ.set id (.loop .ready fr3 ps3 as3 bd3))
     | .ret=>R (.bool false) (r2.σ.set id (.loop (.done .ret) fr3 ps3 as3 bd3))
     | .exit k=>R (.bool false) (r2.σ.set id (.loop (.done (.exit k)) fr3 ps3 as3 bd3)))))):WpC P E fl (.inr id) args σ R:=by
 obtain ⟨⟨x1,f1,m1,s1⟩,⟨N,h1⟩,h2,fr1,ps1,as1,bd1,h3,h4⟩:=h.ex
 simp only at h2 h3 h4
 subst h2
 obtain ⟨⟨x2,f2,m2,s2⟩,⟨M,h5⟩,fr3,ps3,as3,bd3,h6,h7⟩:=h4.ex
 simp only at h6 h7
 cases x2 <;> refine ⟨_,_,⟨max N M,fun n hn=>?_⟩,h7⟩ <;> simp only [pcall,pcallBy,pround,hfl,if_true,h0,hl,h1 n (by omega),h3,h5 n (by omega),h6]
inductive Rounds (P:Program) (E:PExt) (fl id:Nat) (K:List SObj→Prop):List (List PD)→List SObj→List SObj→Prop
 | nil {σ:List SObj}:K σ→Rounds P E fl id K [] σ σ
 | more {a:List PD} {rest:List (List PD)} {σ σ1 σ2:List SObj}:K σ→EvC P E fl (.inr id) a σ (.bool true) σ1→Rounds P E fl id K rest σ1 σ2→Rounds P E fl id K (a::rest) σ σ2
 | stop {a:List PD} {rest:List (List PD)} {σ σ1:List SObj}:K σ→EvC P E fl (.inr id) a σ (.bool false) σ1→Rounds P E fl id K (a::rest) σ σ1
structure RoundsQ (P:Program) (E:PExt) (fl id:Nat) (K:List SObj→Prop) (items:List (List PD)) (σ:List SObj) (R:List SObj→Prop):Prop where
 ex:∃ σ2,Rounds P E fl id K items σ σ2∧R σ2
theorem RoundsQ.nil {id:Nat} {K R:List SObj→Prop} (h:K σ) (k:R σ):RoundsQ P E fl id K [] σ R:=⟨σ,.nil h,k⟩
theorem RoundsQ.cons {id:Nat} {K R:List SObj→Prop} {a:List PD} {rest:List (List PD)} (h:K σ) (k:WpC P E fl (.inr id) a σ (fun p σ1=>(p=.bool true∧RoundsQ P E fl id K rest σ1 R)∨(p=.bool false∧R σ1))):RoundsQ P E fl id K (a::rest) σ R:=by
 obtain ⟨p,σ1,h1,h2⟩:=k.ex
 rcases h2 with ⟨rfl,h2⟩ | ⟨rfl,h2⟩
 ·obtain ⟨σ2,h3,h4⟩:=h2.ex
  exact ⟨σ2,.more h h1 h3,h4⟩
 ·exact ⟨σ1,.stop h h1,h2⟩
def Iter (P:Program) (E:PExt) (gf:FuncId) (cap:List PD) (K:List SObj→Prop) (items:List (List PD)):Prop:=
 ∀ fl id σ σ2,Rounds P E fl id K items σ σ2→∃ q,EvC P E fl (.inl gf) (.yield id::cap) σ q σ2
theorem Wp.rangeFunc {g:Operand} {ps:Array Tmp} {assign body:Code} {gf:FuncId} {cap:List PD} {K:List SObj→Prop} {items:List (List PD)} (hg:peval fr g=some (.func gf cap)) (hfl:fl≤σ.length) (hit:Iter P E gf cap K items)
  (h:RoundsQ P E fl (σ.length+1) K items (σ++[.mark]++[.loop .ready fr ps.toList assign body]) (fun σ2=>∃ r,pleave (σ.length+1) fr (σ.length::ms) σ2=some r∧Q r)) :
  Wp P E none (.rangeFunc g ps assign body) fl fr ms σ Q:=by
 obtain ⟨σ2,h1,r,h2,h3⟩:=h.ex
 obtain ⟨q,N,h4⟩:=hit _ _ _ _ h1
 refine ⟨r,.step (N:=N) fun n hn=>?_,h3⟩
 have:=h4 n hn
 unfold pcall at this
 simp only [pcode,hg,prange,hfl,if_true,this]
 exact h2
theorem WpC.body {f:FuncId} {fn:Func} {c:Code} {args:List PD} {R:PD→List SObj→Prop} (hE:E f=none) (hf:P.funcs[f]?=some fn) (hb:fn.body=some c)
  (h:Wp P E none c fl (args++List.replicate (fn.ntmps - args.length) (.tup [])) [] σ (fun r=>∃ p1 σ1,pfinish P fl fn r=some (p1,σ1)∧R p1 σ1)):WpC P E fl (.inl f) args σ R:=by
 obtain ⟨r,h1,p1,σ1,h2,h3⟩:=h.ex
 exact ⟨p1,σ1,.body hE hf hb h1 h2,h3⟩
end
def allFree (ops:Array Oper):Bool:=(flags ops 0 ops.toList).all fun x=>x.1
theorem pdseq_free {P:Program} {call:PCall} {fl:Nat} {ops:Array Oper}:∀ (l:List (Bool×Oper)) (fr:List PD) (σ:List SObj),l.all (fun x=>x.1)=true→pdseq P call fl ops l fr σ=pseq P call fl ops (l.map Prod.snd) fr σ
 | [],_,_,_=>rfl
 | (free,o)::l,fr,σ,h=>by
   simp only [List.all_cons,Bool.and_eq_true] at h
   obtain ⟨h1,h2⟩:=h
   subst h1
   simp only [pseq,pdseq,List.map_cons]
   split
   ·cases pstep P call fl fr σ o.op with
    | none=>rfl
    | some q=>obtain ⟨p,σ'⟩:=q;simp only;exact pdseq_free l _ _ h2
   ·exact pdseq_free l _ _ h2
theorem flags_snd (ops:Array Oper):∀ (l:List Oper) (i:Nat),(flags ops i l).map Prod.snd=l
 | [],_=>rfl
 | o::l,i=>by simp only [flags,List.map_cons,flags_snd ops l (i+1)]
theorem pdraw_free {P:Program} {call:PCall} {fl:Nat} {ops:Array Oper} (hs:(staticOk ops&&allFree ops)=true) (fr:List PD) (σ:List SObj):pdraw P call fl ops fr σ=pseq P call fl ops ops.toList fr σ:=by
 simp only [Bool.and_eq_true] at hs
 rw [pdraw_static hs.1,pdseq_free _ _ _ hs.2,flags_snd]
def Uni (E:PExt):Prop:=∀ f g args p,E f=some g→g 0 args []=some (p,[])→∀ fl σ,g fl args σ=some (p,σ)
def pcallP (E:PExt):PCall
 | _,.inl f,args,σ=>match E f with
   | some g=>match g 0 args [] with
     | some (p,[])=>some (p,σ)
     | _=>none
   | none=>none
 | _,.inr _,_,_=>none
def noOwn (ops:Array Oper):Bool:=ops.toList.all fun o=>match o.op with
 | .box ..=>false
 | .call { callee:=.builtin .append,.. }=>false
 | .call { callee:=.builtin .copy,.. }=>false
 | _=>true
theorem pstep_pure {P:Program} {E:PExt} (hU:Uni E) {fl fl':Nat} {fr:List PD} {σ:List SObj} {op:Op} {x:PD×List SObj} (hop:(match op with
 | .box ..=>false
 | .call { callee:=.builtin .append,.. }=>false
 | .call { callee:=.builtin .copy,.. }=>false
 | _=>true)=true) (hm:shapeMove op=true) (h:pstep P (pcallP E) fl fr σ op=some x):pstep P (pcallE E) fl' fr σ op=some x∧x.2=σ:=by
 unfold pstep at *
 cases hc:pcallee fr op with
 | some q=>
   obtain ⟨tg,args⟩:=q
   simp only [hc] at h ⊢
   cases tg with
   | inr id=>cases h
   | inl f=>
     simp only [pcallP] at h
     split at h
     ·rename_i g hg
      split at h
      ·rename_i p hp
       simp only [Option.some.injEq] at h;subst h
       simp only [pcallE,hg]
       exact ⟨hU f g args p hg hp fl' σ,by trivial⟩
      ·cases h
     ·cases h
 | none=>
   simp only [hc] at h ⊢
   exfalso
   cases op with
   | box t x=>cases hop
   | call c=>
     obtain ⟨callee,args,ts⟩:=c
     cases callee with
     | value f=>simp [pop,pval,pmem] at h
     | invoke r m=>simp [shapeMove] at hm
     | builtin b=>cases b <;> first | (simp [shapeMove] at hm;done) | cases hop
   | _=>simp [shapeMove] at hm
theorem pstep_nocall {P:Program} {call call':PCall} {fl:Nat} {fr:List PD} {σ:List SObj} {op:Op} (hm:shapeMove op=false):pstep P call fl fr σ op=pstep P call' fl fr σ op:=by
 unfold pstep
 have:pcallee fr op=none:=by
  cases op with
  | call c=>
    obtain ⟨callee,args,ts⟩:=c
    cases callee with
    | value f=>simp [shapeMove] at hm
    | invoke r m=>rfl
    | builtin b=>rfl
  | _=>rfl
 rw [this]
theorem pdseq_pure {P:Program} {E:PExt} (hU:Uni E) {fl:Nat} {ops:Array Oper}:∀ (l:List Oper) (i:Nat) (fr:List PD) (σ:List SObj) (x:List PD×List SObj),l.all (fun o=>match o.op with
 | .box ..=>false
 | .call { callee:=.builtin .append,.. }=>false
 | .call { callee:=.builtin .copy,.. }=>false
 | _=>true)=true→pseq P (pcallP E) fl ops l fr σ=some x→pdseq P (pcallE E) fl ops (flags ops i l) fr σ=some x
 | [],_,_,_,_,_,h=>h
 | o::l,i,fr,σ,x,ho,h=>by
   simp only [List.all_cons,Bool.and_eq_true] at ho
   simp only [pseq] at h
   simp only [flags,pdseq]
   split at h
   ·rename_i hw
    rw [if_pos hw]
    split at h
    ·rename_i p σ1 hp
     cases hm:shapeMove o.op with
     | false=>
       rw [pstep_nocall (call':=pcallE E) hm] at hp
       simp only [Bool.not_false,Bool.true_or,hp]
       exact pdseq_pure hU l (i+1) _ _ _ ho.2 h
     | true=>
       cases freeAt ops i with
       | true=>
         have:=(pstep_pure hU (fl':=fl) ho.1 hm hp).1
         simp only [Bool.or_true,this]
         exact pdseq_pure hU l (i+1) _ _ _ ho.2 h
       | false=>
         obtain ⟨e1,e2⟩:=pstep_pure hU (fl':=max fl σ.length) ho.1 hm hp
         simp only at e2
         subst e2
         simp only [Bool.not_true,Bool.or_self,e1,List.drop_length,List.append_nil]
         exact pdseq_pure hU l (i+1) _ _ _ ho.2 h
    ·cases h
   ·rename_i hw
    rw [if_neg hw]
    exact pdseq_pure hU l (i+1) _ _ _ ho.2 h
theorem Uni.entry {E:PExt} (hU:Uni E) {f:FuncId} {g:List PD→Option PD}:Uni (E.add f (entry g)):=by
 intro f' g' args p hE h fl σ
 unfold PExt.add at hE
 split at hE
 ·simp only [Option.some.injEq] at hE;subst hE
  unfold Go.Kz.entry at h ⊢
  cases hg:g args with
  | none=>simp only [hg] at h;cases h
  | some q=>
    simp only [hg,Option.some.injEq,Prod.mk.injEq,and_true] at h
    subst h
    rfl
 ·exact hU f' g' args p hE h fl σ
theorem Uni.none:Uni (fun _=>Option.none):=fun _ _ _ _ h=>by cases h
theorem Uni.other {E:PExt} (hU:Uni E) {f:FuncId} {g:Nat→List PD→List SObj→Option (PD×List SObj)} (hg:∀ args p,g 0 args []≠some (p,[])):Uni (E.add f g):=by
 intro f' g' args p hE h fl σ
 unfold PExt.add at hE
 split at hE
 ·simp only [Option.some.injEq] at hE;subst hE
  exact absurd h (hg _ _)
 ·exact hU f' g' args p hE h fl σ
def force {α:Type} (n:Nat) (f:Nat→α):α:=match n with | 0=>f 0 | k+1=>f (k+1)
theorem force_eq {α:Type} (n:Nat) (f:Nat→α):force n f=f n:=by cases n <;> rfl
def snocF {α:Type}:List Nat→Nat→(List Nat→α)→α
 | [],m,f=>f [m]
 | x::xs,m,f=>snocF xs m fun ys=>f (x::ys)
theorem snocF_eq {α:Type}:∀ (l:List Nat) (m:Nat) (f:List Nat→α),snocF l m f=f (l++[m])
 | [],_,_=>rfl
 | x::xs,m,f=>by rw [snocF,snocF_eq xs];rfl
def masksK {α:Type}:List Oper→List Nat→(List Nat→α)→α
 | [],acc,f=>f acc
 | o::r,acc,f=>force (maskOf acc o) fun m=>snocF acc m fun acc'=>masksK r acc' f
theorem masksK_eq {α:Type}:∀ (l:List Oper) (acc:List Nat) (f:List Nat→α),masksK l acc f=f (masks l acc)
 | [],_,_=>rfl
 | o::r,acc,f=>by rw [masksK,force_eq,snocF_eq,masksK_eq r];rfl
def fastOk (ops:Array Oper):Bool:=masksK ops.toList [] fun ms=>
 regOk ops ms&&ops.toList.all (fun o=>!shapeAlloc o.op) &&
 (List.range ops.size).all fun k=>!isAt shapeStore ops.toList k||(List.range ops.size).all fun i=>!isAt shapeLoad ops.toList i||!loose ms i k
theorem fastOk_eq (ops:Array Oper):fastOk ops=staticOk ops:=by rw [fastOk,masksK_eq];rfl
def fastFree (ops:Array Oper):Bool:=masksK ops.toList [] fun ms=>
 (List.range ops.size).all fun i=>!isAt shapeMove ops.toList i||noLoose ops.toList ms i
theorem fastFree_ok {ops:Array Oper} (h:fastFree ops=true):allFree ops=true:=by
 rw [fastFree,masksK_eq] at h
 simp only [List.all_eq_true,List.mem_range,Bool.or_eq_true,Bool.not_eq_true'] at h
 unfold allFree
 have key:∀ (l:List Oper) (i:Nat),ops.toList.drop i=l→(flags ops i l).all (fun x=>x.1)=true:=by
  intro l
  induction l with
  | nil=>intro _ _;rfl
  | cons o r ih=>
    intro i hd
    have ho:ops.toList[i]?=some o:=by
     have:=congrArg List.head? hd
     rw [List.head?_drop] at this
     simpa using this
    have hd':ops.toList.drop (i+1)=r:=by rw [← List.drop_drop,hd];rfl
    have hi:i < ops.size:=by
     have:=(List.getElem?_eq_some_iff.1 ho).1
     simpa using this
    simp only [flags,List.all_cons,Bool.and_eq_true,Bool.or_eq_true,Bool.not_eq_true']
    refine ⟨?_,ih (i+1) hd'⟩
    have:=h i hi
    rw [isAt,ho] at this
    simpa [freeAt] using this
 exact key _ 0 (by simp)
theorem fast_both {ops:Array Oper} (h:(fastOk ops&&fastFree ops)=true):(staticOk ops&&allFree ops)=true:=by
 simp only [Bool.and_eq_true,fastOk_eq] at h ⊢
 exact ⟨h.1,fastFree_ok h.2⟩
section
variable {P:Program} {E:PExt} {rd:Option Nat} {fl:Nat} {fr:List PD} {ms:List Nat} {σ:List SObj} {Q:PO→Prop} {ops:Array Oper}
theorem Wp.drawF {id:Nat} {fr1:List PD} {σ1:List SObj} (hs:(fastOk ops&&fastFree ops)=true) (h:pseq P (pcallE E) fl ops ops.toList fr σ=some (fr1,σ1)) (k:Q ⟨.normal,fr1,ms,σ1⟩):Wp P E rd (.region id ops true) fl fr ms σ Q:=
 ⟨_,.draw (N:=0) (fun _ _=>by rw [pdraw_free (fast_both hs)];exact pseq_up h),k⟩
theorem Wp.drawP {id:Nat} {fr1:List PD} {σ1:List SObj} (hU:Uni E) (hs:(fastOk ops&&noOwn ops)=true) (h:pseq P (pcallP E) fl ops ops.toList fr σ=some (fr1,σ1)) (k:Q ⟨.normal,fr1,ms,σ1⟩):Wp P E rd (.region id ops true) fl fr ms σ Q:=by
 simp only [Bool.and_eq_true,fastOk_eq] at hs
 exact .draw hs.1 (pdseq_pure hU _ 0 _ _ _ hs.2 h) k
end
attribute [simp] pleave pargs pcallP
end Go.Kz

namespace Go.Kz
def tn {n:Nat} (b:BitVec n):Int:=(b.toNat:Int)
theorem tn_eq {n:Nat} (b:BitVec n):tn b=(b.toNat:Int):=rfl
def Em.bv64:Em (BitVec 64):=(Em.int .u64).iso tn (fun _ _ h=>BitVec.eq_of_toNat_eq (by unfold tn at h;exact_mod_cast h))
def Em.bv16:Em (BitVec 16):=(Em.int .u16).iso tn (fun _ _ h=>BitVec.eq_of_toNat_eq (by unfold tn at h;exact_mod_cast h))
def Em.bv8:Em (BitVec 8):=(Em.int .u8).iso tn (fun _ _ h=>BitVec.eq_of_toNat_eq (by unfold tn at h;exact_mod_cast h))
@[simp] theorem emb_bv64 {b:BitVec 64}:Em.bv64.emb b=.int .u64 (tn b):=rfl
@[simp] theorem emb_bv16 {b:BitVec 16}:Em.bv16.emb b=.int .u16 (tn b):=rfl
@[simp] theorem emb_bv8 {b:BitVec 8}:Em.bv8.emb b=.int .u8 (tn b):=rfl
@[simp] theorem dec_bv64 {b:BitVec 64}:Em.bv64.dec (.int .u64 (tn b))=some b:=Em.dec_some rfl
@[simp] theorem dec_bv16 {b:BitVec 16}:Em.bv16.dec (.int .u16 (tn b))=some b:=Em.dec_some rfl
@[simp] theorem dec_bv8 {b:BitVec 8}:Em.bv8.dec (.int .u8 (tn b))=some b:=Em.dec_some rfl
theorem bv_int (n:Nat) (b:BitVec n):BitVec.ofInt n (b.toNat:Int)=b:=by simp
theorem wrap_u64_nat {n:Nat} (h:n < 18446744073709551616):IntKind.u64.wrap (n:Int)=n:=wrap_u64 (by omega) (by omega)
section
variable {a b:BitVec 64}
@[simp] theorem pbits_and64:pbits .and .u64 (tn a) (tn b)=some (tn (a &&& b)):=by
  show some (IntKind.u64.wrap ((BitVec.ofInt 64 (a.toNat:Int) &&& BitVec.ofInt 64 (b.toNat:Int)).toNat:Int))=_
  rw [bv_int,bv_int,wrap_u64_nat (BitVec.isLt _)]
  rfl
@[simp] theorem pbits_or64:pbits .or .u64 (tn a) (tn b)=some (tn (a ||| b)):=by
  show some (IntKind.u64.wrap ((BitVec.ofInt 64 (a.toNat:Int) ||| BitVec.ofInt 64 (b.toNat:Int)).toNat:Int))=_
  rw [bv_int,bv_int,wrap_u64_nat (BitVec.isLt _)]
  rfl
@[simp] theorem pbits_xor64:pbits .xor .u64 (tn a) (tn b)=some (tn (a ^^^ b)):=by
  show some (IntKind.u64.wrap ((BitVec.ofInt 64 (a.toNat:Int) ^^^ BitVec.ofInt 64 (b.toNat:Int)).toNat:Int))=_
  rw [bv_int,bv_int,wrap_u64_nat (BitVec.isLt _)]
  rfl
@[simp] theorem pbits_andNot64:pbits .andNot .u64 (tn a) (tn b)=some (tn (a &&& ~~~b)):=by
  show some (IntKind.u64.wrap ((BitVec.ofInt 64 (a.toNat:Int) &&& ~~~(BitVec.ofInt 64 (b.toNat:Int))).toNat:Int))=_
  rw [bv_int,bv_int,wrap_u64_nat (BitVec.isLt _)]
  rfl
theorem wrap_u64_mod (x:Int):IntKind.u64.wrap x=x%18446744073709551616:=by
 simp [IntKind.wrap,IntKind.signed,IntKind.bits]
theorem two64:((2 ^ 64:Nat):Int)=18446744073709551616:=rfl
@[simp] theorem wrap_sub64:IntKind.u64.wrap ((tn a) - (tn b))=(tn (a - b)):=by
  simp only [tn_eq]
  rw [wrap_u64_mod,BitVec.toNat_sub]
  omega
@[simp] theorem wrap_add64:IntKind.u64.wrap ((tn a)+(tn b))=(tn (a+b)):=by
  simp only [tn_eq]
  rw [wrap_u64_mod,BitVec.toNat_add]
  omega
@[simp] theorem wrap_mul64:IntKind.u64.wrap ((tn a)*(tn b))=(tn (a*b)):=by
  simp only [tn_eq]
  rw [wrap_u64_mod,BitVec.toNat_mul,Int.natCast_emod,Int.natCast_mul,two64]
@[simp] theorem wrap_neg64:IntKind.u64.wrap (0 - tn a)=tn (-a):=by
  simp only [tn_eq]
  rw [wrap_u64_mod,BitVec.toNat_neg]
  omega
@[simp] theorem wrap_neg64':IntKind.u64.wrap (-tn a)=tn (-a):=by
  rw [← wrap_neg64,Int.zero_sub]
theorem wrap_sub64_lit (n:Nat) (h:n < 18446744073709551616):IntKind.u64.wrap (tn a - (n:Int))=tn (a - BitVec.ofNat 64 n):=by
 rw [← wrap_sub64]
 simp only [tn_eq,BitVec.toNat_ofNat,Nat.mod_eq_of_lt h]
@[simp] theorem wrap_sub64_one:IntKind.u64.wrap (tn a - 1)=tn (a - 1#64):=wrap_sub64_lit 1 (by omega)
theorem pshl64 {n:Int} (h:0≤n) (h':n < 64):pshift .shl .u64 (tn a) n=some (.int .u64 (tn (a <<< n.toNat))):=by
 have h1:¬ n < 0:=by omega
 have h2:min n.toNat IntKind.u64.bits=n.toNat:=Nat.min_eq_left (by simp [IntKind.bits];omega)
 simp only [pshift,h1,if_false,h2,tn_eq]
 rw [wrap_u64_mod,BitVec.toNat_shiftLeft,Nat.shiftLeft_eq,Int.natCast_emod,Int.natCast_mul,two64,Int.natCast_pow]
 rfl
theorem pshr64 {n:Int} (h:0≤n) (h':n < 64):pshift .shr .u64 (tn a) n=some (.int .u64 (tn (a >>> n.toNat))):=by
 have h1:¬ n < 0:=by omega
 have h2:min n.toNat IntKind.u64.bits=n.toNat:=Nat.min_eq_left (by simp [IntKind.bits];omega)
 simp only [pshift,h1,if_false,h2,tn_eq]
 have h3:(0:Int)≤2 ^ n.toNat:=Int.pow_nonneg (by omega)
 rw [BitVec.toNat_ushiftRight,Nat.shiftRight_eq_div_pow,Int.fdiv_eq_ediv_of_nonneg _ h3,Int.natCast_ediv,Int.natCast_pow]
 rfl
end
@[simp] theorem wrap_zero (k:IntKind):k.wrap 0=0:=by cases k <;> rfl
@[simp] theorem pshl64_one {n:Int} (h:0≤n) (h':n < 64):pshift .shl .u64 1 n=some (.int .u64 (tn (1#64 <<< n.toNat))):=pshl64 (a:=1#64) h h'
@[simp] theorem pshl64' {a:BitVec 64} {n:Int} (h:0≤n) (h':n < 64):pshift .shl .u64 (tn a) n=some (.int .u64 (tn (a <<< n.toNat))):=pshl64 h h'
@[simp] theorem pshr64' {a:BitVec 64} {n:Int} (h:0≤n) (h':n < 64):pshift .shr .u64 (tn a) n=some (.int .u64 (tn (a >>> n.toNat))):=pshr64 h h'
@[simp] theorem pbits_and64_one {a:BitVec 64}:pbits .and .u64 (tn a) 1=some (tn (a &&& 1#64)):=pbits_and64 (b:=1#64)
@[simp] theorem dec_bv64_zero:Em.bv64.dec (.int .u64 0)=some 0#64:=Em.dec_some rfl
@[simp] theorem bit_one {a:BitVec 64} {k:Nat}:((tn (a >>> k &&& 1#64))=1)↔a.getLsbD k=true:=by
  have h1:(a >>> k &&& 1#64)=if a.getLsbD k then 1#64 else 0#64:=by
   apply BitVec.eq_of_getLsbD_eq
   intro i hi
   simp only [BitVec.getLsbD_and,BitVec.getLsbD_ushiftRight,BitVec.getLsbD_one]
   by_cases h0:i=0
   ·subst h0
    cases h:a.getLsbD k <;> simp [h]
   ·cases h:a.getLsbD k <;> simp [h0]
  rw [h1]
  cases a.getLsbD k <;> simp [tn]
end Go.Kz

namespace Go.Kz
structure SQ (P:Program) (call:PCall) (fl:Nat) (ops:Array Oper) (l:List Oper) (fr:List PD) (σ:List SObj) (K:List PD→List SObj→Prop):Prop where
 ex:∃ fr' σ',pseq P call fl ops l fr σ=some (fr',σ')∧K fr' σ'
def lk:List PD→Nat→Option PD
 | [],_=>none
 | x::_,0=>some x
 | _::xs,n+1=>lk xs n
def evalO (fr:List PD):Operand→Option PD
 | .tmp t=>lk fr t
 | .const v=>ofValue v
 | .func f=>some (.func f [])
 | .global g=>match gcells g with
   | some ds=>some (.eptr ds 0)
   | none=>none
def evalsO (fr:List PD):List Operand→Option (List PD)
 | []=>some []
 | x::xs=>match evalO fr x,evalsO fr xs with
   | some p,some ps=>some (p::ps)
   | _,_=>none
def evalPartsO (fr:List PD):List (Nat×Operand)→Option (List (Nat×PD))
 | []=>some []
 | (i,x)::r=>match evalO fr x,evalPartsO fr r with
   | some p,some ps=>some ((i,p)::ps)
   | _,_=>none
def optO (fr:List PD):Option Operand→Option (Option (Option PD))
 | none=>some none
 | some x=>match evalO fr x with
   | some p=>some (some (some p))
   | none=>none
theorem lk_eq:∀ (fr:List PD) (t:Nat),lk fr t=fr[t]?
 | [],_=>by simp [lk]
 | _::_,0=>by simp [lk]
 | _::xs,n+1=>by simp [lk,lk_eq xs n]
theorem evalO_ok {fr:List PD} {x:Operand} {p:PD} (h:evalO fr x=some p):peval fr x=some p:=by
 cases x with
 | tmp t=>
   simp only [evalO,lk_eq] at h
   simp only [peval,List.getD_eq_getElem?_getD,h,Option.getD_some]
 | _=>exact h
theorem evalsO_ok {fr:List PD}:∀ {xs:List Operand} {ps:List PD},evalsO fr xs=some ps→pevals fr xs=some ps
 | [],_,h=>h
 | x::xs,ps,h=>by
   simp only [evalsO] at h
   split at h
   ·rename_i p qs h1 h2
    simp only [pevals,evalO_ok h1,evalsO_ok h2]
    exact h
   ·cases h
theorem evalPartsO_ok {fr:List PD}:∀ {xs:List (Nat×Operand)} {ps:List (Nat×PD)},evalPartsO fr xs=some ps→pevalParts fr xs=some ps
 | [],_,h=>h
 | (i,x)::xs,ps,h=>by
   simp only [evalPartsO] at h
   split at h
   ·rename_i p qs h1 h2
    simp only [pevalParts,evalO_ok h1,evalPartsO_ok h2]
    exact h
   ·cases h
theorem optO_ok {fr:List PD} {x:Option Operand} {p:Option (Option PD)} (h:optO fr x=some p):x.map (peval fr)=p:=by
 cases x with
 | none=>simpa [optO] using h
 | some x=>
   simp only [optO] at h
   split at h
   ·rename_i q hq
    simp only [Option.some.injEq] at h;subst h
    show some (peval fr x)=_
    rw [evalO_ok hq]
   ·cases h
section
variable {P:Program} {E:PExt} {call:PCall} {rd:Option Nat} {fl:Nat} {fr fr1:List PD} {ms:List Nat} {σ σ1:List SObj} {Q:PO→Prop} {ops:Array Oper} {K:List PD→List SObj→Prop} {l:List Oper} {dst:Option Tmp}
 {ty:TypeId} {pos:String} {edges:Array Edge} {guard:Option (Nat×Bool)} {t:TypeId} {x y:Operand} {p q r:PD}
theorem SQ.nil (h:K fr σ):SQ P call fl ops [] fr σ K:=⟨fr,σ,rfl,h⟩
theorem SQ.step {o:Oper} (hw:Region.wanted o (pyield ops fr)=true) (h:pstep P call fl fr σ o.op=some (p,σ1)) (k:SQ P call fl ops l (pput fr o.dst p) σ1 K):SQ P call fl ops (o::l) fr σ K:=by
 obtain ⟨fr',σ',h1,h2⟩:=k.ex
 exact ⟨fr',σ',by simp only [pseq,hw,if_true,h,h1],h2⟩
theorem SQ.pass {o:Oper} (hw:Region.wanted o (pyield ops fr)=false) (hf:pput fr o.dst (.tup [])=fr1) (k:SQ P call fl ops l fr1 σ K):SQ P call fl ops (o::l) fr σ K:=by
 subst hf
 obtain ⟨fr',σ',h1,h2⟩:=k.ex
 exact ⟨fr',σ',by simp only [pseq,hw,Bool.false_eq_true,if_false,h1],h2⟩
theorem pstep_val {op:Op} (hc:pcallee fr op=none) (h:pval P fr op=some p):pstep P call fl fr σ op=some (p,σ):=by
 unfold pstep pop;rw [hc,h]
theorem pstep_mem {op:Op} (hc:pcallee fr op=none) (hv:pval P fr op=none) (h:pmem P fl fr σ op=some (p,σ1)):pstep P call fl fr σ op=some (p,σ1):=by
 unfold pstep pop;rw [hc];simp only [hv];exact h
theorem SQ.move (hw:Region.wanted ⟨dst,.move x,ty,pos,edges,guard⟩ (pyield ops fr)=true) (hx:evalO fr x=some p) (hf:pput fr dst p=fr1) (k:SQ P call fl ops l fr1 σ K):SQ P call fl ops (⟨dst,.move x,ty,pos,edges,guard⟩::l) fr σ K:=
 .step hw (pstep_val rfl (evalO_ok hx)) (hf▸k)
theorem SQ.assign (hw:Region.wanted ⟨dst,.assign x,ty,pos,edges,guard⟩ (pyield ops fr)=true) (hx:evalO fr x=some p) (hf:pput fr dst p=fr1) (k:SQ P call fl ops l fr1 σ K):SQ P call fl ops (⟨dst,.assign x,ty,pos,edges,guard⟩::l) fr σ K:=
 .step hw (pstep_val rfl (evalO_ok hx)) (hf▸k)
theorem SQ.pick {c:Operand} {b:Bool} (hw:Region.wanted ⟨dst,.pick c x y,ty,pos,edges,guard⟩ (pyield ops fr)=true) (hc:evalO fr c=some (.bool b)) (hx:cond b (evalO fr x) (evalO fr y)=some p) (hf:pput fr dst p=fr1) (k:SQ P call fl ops l fr1 σ K) :
  SQ P call fl ops (⟨dst,.pick c x y,ty,pos,edges,guard⟩::l) fr σ K:=
 .step hw (pstep_val rfl (by simp only [pval,evalO_ok hc];cases b <;> exact evalO_ok hx)) (hf▸k)
theorem SQ.binOp {op:BinOp} {u:TypeId} (hw:Region.wanted ⟨dst,.binOp op t x y u,ty,pos,edges,guard⟩ (pyield ops fr)=true) (hx:evalO fr x=some p) (hy:evalO fr y=some q) (hr:pbin P op t p q=some r) (hf:pput fr dst r=fr1) (k:SQ P call fl ops l fr1 σ K) :
  SQ P call fl ops (⟨dst,.binOp op t x y u,ty,pos,edges,guard⟩::l) fr σ K:=
 .step hw (pstep_val rfl (by simp only [pval,evalO_ok hx,evalO_ok hy,hr])) (hf▸k)
theorem pnil_val {op:BinOp} {e:TypeId} {b:Bool} {u:TypeId} (hx:evalO fr x=some p) (hu:P.underlying t=some (.slice e)) (hb:pisnil p=some b) (ho:op=.eql∨op=.neq) :
  pval P fr (.binOp op t x (.const (.slice none 0 0)) u)=some (.bool (if op=.eql then b else !b)):=by
 have hy:peval fr (.const (.slice none 0 0))=some (.slice 0 [] .full):=rfl
 simp only [pval,evalO_ok hx,hy]
 have hn:pbin P op t p (.slice 0 [] .full)=none:=by
  unfold pisnil at hb
  rcases ho with rfl | rfl
  all_goals
   split at hb
   ·simp [pbin,peq,peqIn,hu]
   ·simp [pbin,peq,peqIn,hu]
   ·simp [pbin,peq,peqIn,hu]
   ·cases hb
 rw [hn]
 rcases ho with rfl | rfl <;> simp [pnilcmp,hu,hb]
theorem SQ.isnilE {e:TypeId} {b:Bool} {u:TypeId} (hw:Region.wanted ⟨dst,.binOp .eql t x (.const (.slice none 0 0)) u,ty,pos,edges,guard⟩ (pyield ops fr)=true) (hx:evalO fr x=some p) (hu:P.underlying t=some (.slice e)) (hb:pisnil p=some b) (hf:pput fr dst (.bool b)=fr1) (k:SQ P call fl ops l fr1 σ K) :
  SQ P call fl ops (⟨dst,.binOp .eql t x (.const (.slice none 0 0)) u,ty,pos,edges,guard⟩::l) fr σ K:=
 .step hw (pstep_val rfl (pnil_val hx hu hb (.inl rfl))) (hf▸k)
theorem SQ.isnilN {e:TypeId} {b:Bool} {u:TypeId} (hw:Region.wanted ⟨dst,.binOp .neq t x (.const (.slice none 0 0)) u,ty,pos,edges,guard⟩ (pyield ops fr)=true) (hx:evalO fr x=some p) (hu:P.underlying t=some (.slice e)) (hb:pisnil p=some b) (hf:pput fr dst (.bool (!b))=fr1) (k:SQ P call fl ops l fr1 σ K) :
  SQ P call fl ops (⟨dst,.binOp .neq t x (.const (.slice none 0 0)) u,ty,pos,edges,guard⟩::l) fr σ K:=
 .step hw (pstep_val rfl (pnil_val hx hu hb (.inr rfl))) (hf▸k)
theorem SQ.make {e:TypeId} {k1 k2:IntKind} {a b:Int} (hw:Region.wanted ⟨dst,.makeSlice t x y,ty,pos,edges,guard⟩ (pyield ops fr)=true) (hx:evalO fr x=some (.int k1 a)) (hy:evalO fr y=some (.int k2 b)) (hu:P.underlying t=some (.slice e)) (ha:0≤a∧0≤b)
  (hr:pmake P σ t e a.toNat b.toNat=some (r,σ1)) (hf:pput fr dst r=fr1) (k:SQ P call fl ops l fr1 σ1 K):SQ P call fl ops (⟨dst,.makeSlice t x y,ty,pos,edges,guard⟩::l) fr σ K:=
 .step hw (pstep_mem rfl rfl (by simp only [pmem,evalO_ok hx,evalO_ok hy,hu,pasNat,ha.1,ha.2,if_true,hr])) (hf▸k)
theorem SQ.convertR {u:TypeId} {id off n size:Nat} (hw:Region.wanted ⟨dst,.convert u t x,ty,pos,edges,guard⟩ (pyield ops fr)=true) (hx:evalO fr x=some (.sref id off n size)) (hc:tconv u t=true) (hr:prowStr P σ u t (.sref id off n size)=some r) (hf:pput fr dst r=fr1) (k:SQ P call fl ops l fr1 σ K) :
  SQ P call fl ops (⟨dst,.convert u t x,ty,pos,edges,guard⟩::l) fr σ K:=by
 have h1:pconv P u t (.sref id off n size)=none:=by
  unfold pconv
  split <;> first | rfl | contradiction
 have h2:pcopies P u t (.sref id off n size)=none:=by
  unfold pcopies
  split <;> first | rfl | contradiction
 exact .step hw (pstep_mem rfl (by simp only [pval,hc,if_true]) (by simp only [pmem,evalO_ok hx,hc,if_true,h2,hr])) (hf▸k)
theorem SQ.unOp {op:UnOp} (hw:Region.wanted ⟨dst,.unOp op t x,ty,pos,edges,guard⟩ (pyield ops fr)=true) (hx:evalO fr x=some p) (hr:pun op p=some r) (hf:pput fr dst r=fr1) (k:SQ P call fl ops l fr1 σ K) :
  SQ P call fl ops (⟨dst,.unOp op t x,ty,pos,edges,guard⟩::l) fr σ K:=
 .step hw (pstep_val rfl (by simp only [pval,evalO_ok hx,hr])) (hf▸k)
def pconvAll (P:Program) (u t:TypeId) (p:PD):Option PD:=if tconv u t=true then pcopies P u t p else pconv P u t p
attribute [simp] pconvAll
theorem SQ.convert {u:TypeId} (hw:Region.wanted ⟨dst,.convert u t x,ty,pos,edges,guard⟩ (pyield ops fr)=true) (hx:evalO fr x=some p) (hr:pconvAll P u t p=some r) (hf:pput fr dst r=fr1) (k:SQ P call fl ops l fr1 σ K) :
  SQ P call fl ops (⟨dst,.convert u t x,ty,pos,edges,guard⟩::l) fr σ K:=
 .step hw (by
  unfold pconvAll at hr
  unfold pstep pop
  simp only [pcallee,pval,evalO_ok hx]
  split at hr
  ·rename_i hc
   rw [if_pos hc]
   simp only [pmem,evalO_ok hx,hr]
   rw [if_pos hc]
  ·rename_i hc
   rw [if_neg hc,hr]) (hf▸k)
theorem SQ.makeFunc {f:FuncId} {cap:Array Operand} {cs:List PD} (hw:Region.wanted ⟨dst,.makeFunc (.func f) #[] cap,ty,pos,edges,guard⟩ (pyield ops fr)=true) (hx:evalsO fr cap.toList=some cs) (hf:pput fr dst (.func f cs)=fr1) (k:SQ P call fl ops l fr1 σ K) :
  SQ P call fl ops (⟨dst,.makeFunc (.func f) #[] cap,ty,pos,edges,guard⟩::l) fr σ K:=
 .step hw (pstep_val rfl (by simp [pval,evalsO_ok hx])) (hf▸k)
theorem SQ.slice {lo hi mx:Option Operand} {lo' hi' mx':Option (Option PD)} (hw:Region.wanted ⟨dst,.slice t x lo hi mx,ty,pos,edges,guard⟩ (pyield ops fr)=true) (hx:evalO fr x=some p) (h1:optO fr lo=some lo') (h2:optO fr hi=some hi') (h3:optO fr mx=some mx')
  (hr:pslice P t p lo' hi' mx'=some r) (hf:pput fr dst r=fr1) (k:SQ P call fl ops l fr1 σ K):SQ P call fl ops (⟨dst,.slice t x lo hi mx,ty,pos,edges,guard⟩::l) fr σ K:=by
 exact .step hw (pstep_val rfl (by simp only [pval,evalO_ok hx,optO_ok h1,optO_ok h2,optO_ok h3,hr])) (hf▸k)
theorem SQ.fieldAddr {f:Nat} (hw:Region.wanted ⟨dst,.fieldAddr t x f,ty,pos,edges,guard⟩ (pyield ops fr)=true) (hx:evalO fr x=some p) (hr:pfieldAddr P t p f=some r) (hf:pput fr dst r=fr1) (k:SQ P call fl ops l fr1 σ K) :
  SQ P call fl ops (⟨dst,.fieldAddr t x f,ty,pos,edges,guard⟩::l) fr σ K:=
 .step hw (pstep_val rfl (by simp only [pval,evalO_ok hx,hr])) (hf▸k)
theorem SQ.field {f:Nat} (hw:Region.wanted ⟨dst,.field t x f,ty,pos,edges,guard⟩ (pyield ops fr)=true) (hx:evalO fr x=some p) (hr:pfield P t p f=some r) (hf:pput fr dst r=fr1) (k:SQ P call fl ops l fr1 σ K) :
  SQ P call fl ops (⟨dst,.field t x f,ty,pos,edges,guard⟩::l) fr σ K:=
 .step hw (pstep_val rfl (by simp only [pval,evalO_ok hx,hr])) (hf▸k)
theorem SQ.indexAddr (hw:Region.wanted ⟨dst,.indexAddr t x y,ty,pos,edges,guard⟩ (pyield ops fr)=true) (hx:evalO fr x=some p) (hy:evalO fr y=some q) (hr:pindexAddr P t p q=some r) (hf:pput fr dst r=fr1) (k:SQ P call fl ops l fr1 σ K) :
  SQ P call fl ops (⟨dst,.indexAddr t x y,ty,pos,edges,guard⟩::l) fr σ K:=
 .step hw (pstep_val rfl (by simp only [pval,evalO_ok hx,evalO_ok hy,hr])) (hf▸k)
theorem SQ.index (hw:Region.wanted ⟨dst,.index t x y,ty,pos,edges,guard⟩ (pyield ops fr)=true) (hx:evalO fr x=some p) (hy:evalO fr y=some q) (hr:pindex P t p q=some r) (hf:pput fr dst r=fr1) (k:SQ P call fl ops l fr1 σ K) :
  SQ P call fl ops (⟨dst,.index t x y,ty,pos,edges,guard⟩::l) fr σ K:=
 .step hw (pstep_val rfl (by simp only [pval,evalO_ok hx,evalO_ok hy,hr])) (hf▸k)
theorem SQ.extract {i:Nat} {vs:List PD} (hw:Region.wanted ⟨dst,.extract x i,ty,pos,edges,guard⟩ (pyield ops fr)=true) (hx:evalO fr x=some (.tup vs)) (hr:vs[i]?=some r) (hf:pput fr dst r=fr1) (k:SQ P call fl ops l fr1 σ K) :
  SQ P call fl ops (⟨dst,.extract x i,ty,pos,edges,guard⟩::l) fr σ K:=
 .step hw (pstep_val rfl (by simp only [pval,evalO_ok hx,hr])) (hf▸k)
def PD.isPtr:PD→Bool
 | .ptr _ _=>true
 | .eptr _ _=>true
 | _=>false
theorem SQ.nilCheckP (hw:Region.wanted ⟨dst,.nilCheck x,ty,pos,edges,guard⟩ (pyield ops fr)=true) (hx:evalO fr x=some p) (hp:p.isPtr=true) (hf:pput fr dst p=fr1) (k:SQ P call fl ops l fr1 σ K) :
  SQ P call fl ops (⟨dst,.nilCheck x,ty,pos,edges,guard⟩::l) fr σ K:=
 .step hw (pstep_val rfl (by
  simp only [pval,evalO_ok hx]
  cases p <;> first | rfl | (cases hp;done))) (hf▸k)
theorem SQ.nilCheck {id off:Nat} (hw:Region.wanted ⟨dst,.nilCheck x,ty,pos,edges,guard⟩ (pyield ops fr)=true) (hx:evalO fr x=some (.ptr id off)) (hf:pput fr dst (.ptr id off)=fr1) (k:SQ P call fl ops l fr1 σ K) :
  SQ P call fl ops (⟨dst,.nilCheck x,ty,pos,edges,guard⟩::l) fr σ K:=
 .step hw (pstep_val rfl (by simp only [pval,evalO_ok hx])) (hf▸k)
theorem SQ.build {parts:Array (Nat×Operand)} {ps:List (Nat×PD)} (hw:Region.wanted ⟨dst,.build t parts,ty,pos,edges,guard⟩ (pyield ops fr)=true) (hx:evalPartsO fr parts.toList=some ps) (hr:pbuild P t ps=some r) (hf:pput fr dst r=fr1) (k:SQ P call fl ops l fr1 σ K) :
  SQ P call fl ops (⟨dst,.build t parts,ty,pos,edges,guard⟩::l) fr σ K:=
 .step hw (pstep_val rfl (by simp only [pval,evalPartsO_ok hx,hr])) (hf▸k)
theorem SQ.builtin {b:Builtin} {args:Array Operand} {ts:Array TypeId} {ps:List PD} (hw:Region.wanted ⟨dst,.call { callee:=.builtin b,args:=args,argTypes:=ts },ty,pos,edges,guard⟩ (pyield ops fr)=true) (hx:evalsO fr args.toList=some ps) (hr:pbuiltin P b ts ps=some r)
  (hf:pput fr dst r=fr1) (k:SQ P call fl ops l fr1 σ K):SQ P call fl ops (⟨dst,.call { callee:=.builtin b,args:=args,argTypes:=ts },ty,pos,edges,guard⟩::l) fr σ K:=
 .step hw (pstep_val rfl (by simp only [pval,evalsO_ok hx,hr])) (hf▸k)
theorem SQ.load (hw:Region.wanted ⟨dst,.load t x,ty,pos,edges,guard⟩ (pyield ops fr)=true) (hx:evalO fr x=some p) (hr:pload P σ t p=some r) (hf:pput fr dst r=fr1) (k:SQ P call fl ops l fr1 σ K):SQ P call fl ops (⟨dst,.load t x,ty,pos,edges,guard⟩::l) fr σ K:=
 .step hw (pstep_mem rfl rfl (by simp only [pmem,evalO_ok hx,hr])) (hf▸k)
theorem SQ.store (hw:Region.wanted ⟨dst,.store t x y,ty,pos,edges,guard⟩ (pyield ops fr)=true) (hx:evalO fr x=some p) (hy:evalO fr y=some q) (hr:pstore P fl σ t p q=some σ1) (hf:pput fr dst (.tup [])=fr1) (k:SQ P call fl ops l fr1 σ1 K) :
  SQ P call fl ops (⟨dst,.store t x y,ty,pos,edges,guard⟩::l) fr σ K:=
 .step hw (pstep_mem rfl rfl (by simp only [pmem,evalO_ok hx,evalO_ok hy,hr])) (hf▸k)
theorem SQ.alloc {p':PD} (hw:Region.wanted ⟨dst,.alloc t,ty,pos,edges,guard⟩ (pyield ops fr)=true) (hx:pzero P t=some p) (hp:p.cells.all PD.plain=true) (hb:boxed t p=p') (hr:σ++[.box p']=σ1) {n:Nat} (hn:σ.length=n) (hf:pput fr dst (.ptr n 0)=fr1) (k:SQ P call fl ops l fr1 σ1 K) :
  SQ P call fl ops (⟨dst,.alloc t,ty,pos,edges,guard⟩::l) fr σ K:=by
 subst hb hr hn
 exact .step hw (pstep_mem rfl rfl (by simp only [pmem,hx,hp,if_true])) (hf▸k)
theorem SQ.box (hw:Region.wanted ⟨dst,.box t x,ty,pos,edges,guard⟩ (pyield ops fr)=true) (hx:evalO fr x=some p) (hp:p.cells.all PD.plain=true) (hr:σ++[.box p]=σ1) {n:Nat} (hn:σ.length=n) (hf:pput fr dst (.ptr n 0)=fr1) (k:SQ P call fl ops l fr1 σ1 K) :
  SQ P call fl ops (⟨dst,.box t x,ty,pos,edges,guard⟩::l) fr σ K:=by
 subst hr hn
 exact .step hw (pstep_mem rfl rfl (by simp only [pmem,evalO_ok hx,hp,if_true])) (hf▸k)
theorem SQ.buildSlice {len:Nat} {parts:Array (Nat×Operand)} {ps:List (Nat×PD)} (hw:Region.wanted ⟨dst,.buildSlice t len parts,ty,pos,edges,guard⟩ (pyield ops fr)=true) (hx:evalPartsO fr parts.toList=some ps) (hr:pnewSlice P t len (ps.map fun q=>(q.1,q.2.strip))=some r)
  (hf:pput fr dst r=fr1) (k:SQ P call fl ops l fr1 σ K):SQ P call fl ops (⟨dst,.buildSlice t len parts,ty,pos,edges,guard⟩::l) fr σ K:=
 .step hw (pstep_mem rfl rfl (by simp only [pmem,evalPartsO_ok hx,hr])) (hf▸k)
theorem SQ.append (hw:Region.wanted ⟨dst,.call { callee:=.builtin .append,args:=#[x,y],argTypes:=#[t,t] },ty,pos,edges,guard⟩ (pyield ops fr)=true) (hx:evalO fr x=some p) (hy:evalO fr y=some q)
  (hr:(if trow t fr.length=true then prowAppend P fr.length fl σ t p q else pappend P fl σ t p q.strip)=some (r,σ1)) (hf:pput fr dst r=fr1) (k:SQ P call fl ops l fr1 σ1 K):SQ P call fl ops (⟨dst,.call { callee:=.builtin .append,args:=#[x,y],argTypes:=#[t,t] },ty,pos,edges,guard⟩::l) fr σ K:=by
 refine .step hw (pstep_mem rfl ?_ ?_) (hf▸k)
 ·simp only [pval,pevals,evalO_ok hx,evalO_ok hy,pbuiltin]
 ·simp only [pmem,pevals,evalO_ok hx,evalO_ok hy,if_true]
  by_cases hm:trow t fr.length=true
  ·rw [if_pos hm] at hr
   rw [hr]
  ·rw [if_neg hm] at hr
   have:prowAppend P fr.length fl σ t p q=none:=by unfold prowAppend;rw [if_neg hm]
   rw [this]
   exact hr
theorem SQ.copy {u:TypeId} (hw:Region.wanted ⟨dst,.call { callee:=.builtin .copy,args:=#[x,y],argTypes:=#[t,u] },ty,pos,edges,guard⟩ (pyield ops fr)=true) (hx:evalO fr x=some p) (hy:evalO fr y=some q)
  (hr:pcopy P fl σ t u p q=some (r,σ1)) (hf:pput fr dst r=fr1) (k:SQ P call fl ops l fr1 σ1 K):SQ P call fl ops (⟨dst,.call { callee:=.builtin .copy,args:=#[x,y],argTypes:=#[t,u] },ty,pos,edges,guard⟩::l) fr σ K:=by
 refine .step hw (pstep_mem rfl ?_ ?_) (hf▸k)
 ·simp only [pval,pevals,evalO_ok hx,evalO_ok hy,pbuiltin]
 ·simp only [pmem,pevals,evalO_ok hx,evalO_ok hy,hr]
theorem SQ.fcall {g:Operand} {args:Array Operand} {ts:Array TypeId} {f:FuncId} {cap ps:List PD} (hw:Region.wanted ⟨dst,.call { callee:=.value g,args:=args,argTypes:=ts },ty,pos,edges,guard⟩ (pyield ops fr)=true) (hg:evalO fr g=some (.func f cap))
  (hx:evalsO fr args.toList=some ps) (hr:call fl (.inl f) (ps++cap) σ=some (r,σ1)) (hf:pput fr dst r=fr1) (k:SQ P call fl ops l fr1 σ1 K):SQ P call fl ops (⟨dst,.call { callee:=.value g,args:=args,argTypes:=ts },ty,pos,edges,guard⟩::l) fr σ K:=by
 refine .step hw ?_ (hf▸k)
 simp only [pstep,pcallee,evalO_ok hg,evalsO_ok hx,hr]
theorem Run.bodyL {f:FuncId} {fn:Func} {c:Code} {args fr:List PD} {p:PD} (hE:E f=none) (hf:P.funcs[f]?=some fn) (hb:fn.body=some c) (hfr:args++List.replicate (fn.ntmps - args.length) (.tup [])=fr)
  (h:Wp P E none c 0 fr [] [] (fun r=>∃ p1 σ1,pfinish P 0 fn r=some (p1,σ1)∧p1.strip=p)):Run P E f args p:=by
 subst hfr
 exact Run.body hE hf hb h
theorem WpC.bodyL {f:FuncId} {fn:Func} {c:Code} {args:List PD} {R:PD→List SObj→Prop} (hE:E f=none) (hf:P.funcs[f]?=some fn) (hb:fn.body=some c) (hfr:args++List.replicate (fn.ntmps - args.length) (.tup [])=fr)
  (h:Wp P E none c fl fr [] σ (fun r=>∃ p1 σ1,pfinish P fl fn r=some (p1,σ1)∧R p1 σ1)):WpC P E fl (.inl f) args σ R:=by
 subst hfr
 exact WpC.body hE hf hb h
theorem Wp.regionS {id:Nat} (h:SQ P (pcallE E) fl ops ops.toList fr σ (fun fr' σ'=>Q ⟨.normal,fr',ms,σ'⟩)):Wp P E rd (.region id ops false) fl fr ms σ Q:=by
 obtain ⟨fr',σ',h1,h2⟩:=h.ex
 exact .region h1 h2
theorem Wp.drawPS {id:Nat} (hU:Uni E) (hs:(fastOk ops&&noOwn ops)=true) (h:SQ P (pcallP E) fl ops ops.toList fr σ (fun fr' σ'=>Q ⟨.normal,fr',ms,σ'⟩)):Wp P E rd (.region id ops true) fl fr ms σ Q:=by
 obtain ⟨fr',σ',h1,h2⟩:=h.ex
 exact .drawP hU hs h1 h2
theorem Wp.drawFS {id:Nat} (hs:(fastOk ops&&fastFree ops)=true) (h:SQ P (pcallE E) fl ops ops.toList fr σ (fun fr' σ'=>Q ⟨.normal,fr',ms,σ'⟩)):Wp P E rd (.region id ops true) fl fr ms σ Q:=by
 obtain ⟨fr',σ',h1,h2⟩:=h.ex
 exact .drawF hs h1 h2
theorem Rounds.here {id:Nat} {K:List SObj→Prop} {items:List (List PD)} {σ σ2:List SObj} (h:Rounds P E fl id K items σ σ2):K σ:=by cases h <;> assumption
theorem Rounds.inv {id:Nat} {K:List SObj→Prop} {a:List PD} {items:List (List PD)} {σ σ2:List SObj} (h:Rounds P E fl id K (a::items) σ σ2) :
  (∃ σ1,EvC P E fl (.inr id) a σ (.bool true) σ1∧Rounds P E fl id K items σ1 σ2)∨EvC P E fl (.inr id) a σ (.bool false) σ2:=by
 cases h with
 | more h1 h2 h3=>exact .inl ⟨_,h2,h3⟩
 | stop h1 h2=>exact .inr h2
structure LoopI (I:Nat→List PD→List SObj→Prop) (m:Nat) (ms:List Nat) (Q:PO→Prop) (r:PO):Prop where
 nx:r.x=.normal→r.ms=ms∧∃ m',m' < m∧I m' r.fr r.σ
 out:r.x≠.normal→Q r
theorem LoopI.normal {I:Nat→List PD→List SObj→Prop} {m:Nat} (m':Nat) (h:m' < m) (k:I m' fr σ):LoopI I m ms Q ⟨.normal,fr,ms,σ⟩:=⟨fun _=>⟨rfl,m',h,k⟩,fun e=>absurd rfl e⟩
theorem LoopI.ret {I:Nat→List PD→List SObj→Prop} {m:Nat} {ms':List Nat} (h:Q ⟨.ret,fr,ms',σ⟩):LoopI I m ms Q ⟨.ret,fr,ms',σ⟩:=⟨fun e=>(by cases e),fun _=>h⟩
theorem LoopI.exit {I:Nat→List PD→List SObj→Prop} {m k:Nat} {ms':List Nat} (h:Q ⟨.exit k,fr,ms',σ⟩):LoopI I m ms Q ⟨.exit k,fr,ms',σ⟩:=⟨fun e=>(by cases e),fun _=>h⟩
theorem Wp.loopI {b:Code} (I:Nat→List PD→List SObj→Prop) (h:∀ m fr σ,I m fr σ→Wp P E rd b fl fr ms σ (LoopI I m ms Q)):∀ m {fr σ},I m fr σ→Wp P E rd (.loop b) fl fr ms σ Q:=by
 intro m
 induction m using Nat.strongRecOn with
 | ind m ih=>
   intro fr σ hi
   refine Wp.loop ((h m fr σ hi).mono fun r hr=>⟨fun e=>?_,fun e=>hr.out e⟩)
   obtain ⟨e1,m',h1,h2⟩:=hr.nx e
   rw [e1]
   exact ih m' h1 h2
end
end Go.Kz

namespace Go.Kz
section
variable {P:Program} {E:PExt} {rd:Option Nat} {fl:Nat} {fr frA:List PD} {ms:List Nat} {σ:List SObj} {Q:PO→Prop}
theorem RoundsQ.ind {α:Type} {id:Nat} {K R:List SObj→Prop} (item:α→List PD) (I:List α→List α→List SObj→Prop)
  (h:∀ done a rest σ,I done (a::rest) σ→K σ∧WpC P E fl (.inr id) (item a) σ (fun p σ1=>(p=.bool true∧I (done++[a]) rest σ1)∨(p=.bool false∧R σ1))) (h0:∀ done σ,I done [] σ→K σ∧R σ) :
  ∀ rest done σ,I done rest σ→RoundsQ P E fl id K (rest.map item) σ R
 | [],done,σ,hi=>.nil (h0 done σ hi).1 (h0 done σ hi).2
 | a::rest,done,σ,hi=>.cons (h done a rest σ hi).1 ((h done a rest σ hi).2.mono fun p σ1 hp=>hp.imp (fun ⟨e,k⟩=>⟨e,RoundsQ.ind item I h h0 rest _ _ k⟩) (fun x=>x))
end
end Go.Kz

namespace Go.Kz
open Go.RowKit Go.ChangeShapes
theorem ExtOk.addOnce {P:Program} {E:PExt} (hE:ExtOk P E) (hP:P.follows .mixedOrders=true) {f:FuncId} {b:Bool} {N:Nat} {σ1:List SObj} (h:pcall P E N 0 (.inl f) [] []=some (.bool b,σ1)) :
  ExtOk P (E.add f (entry (gf0 Em.bool (some b)))):=by
 intro F fl f' g' args c vs p σ' hF hg hgo hs hX hv
 unfold PExt.add at hg
 split at hg
 ·rename_i e
  subst e
  simp only [Option.some.injEq] at hg;subst hg
  match args,hgo,hv with
  | [],hgo,hv=>
    simp only [entry,gf0,Option.some.injEq,Prod.mk.injEq] at hgo
    obtain ⟨rfl,rfl⟩:=hgo
    have hv0:VRs c.bare vs []:=⟨hv.1,fun i v d _ h2=>by simp at h2⟩
    have:=(pcall_ok hE hP hF N).fn (c:=c.bare) h hs.bare (fun _ _ h=>h.elim) hv0
    refine ⟨this.1,fun m=>CallsIn.mono (this.2 m) fun e w' he=>?_⟩
    cases e with
    | returned v=>
      obtain ⟨c1,rfl,rfl,hs1,nx,hvv,_⟩:=he
      have hgr:c.w.grownBy c1.w none:=⟨nx.os,nx.tape,nx.output,nx.size,fun k hk _=>nx.frame k hk (fun _ h=>h.elim)⟩
      refine ⟨c.at c1.w,rfl,rfl,hs.grow hgr,Nx.grow hs hgr,?_,fun _ h=>.inl h⟩
      rw [hvv.inv_bool]
      exact .bool b
    | panicked ch=>exact he.elim
    | outgrown=>exact he.elim
 ·exact hE hF hg hgo hs hX hv
theorem Run.calls {P:Program} {E:PExt} (hE:ExtOk P E) (hP:P.follows .mixedOrders=true) (hN:∀ (f:FuncId) fn,P.funcs[f]?=some fn→(fn.name== "runtime.NumGoroutine")=false)
  {f:FuncId} {args:List PD} {vs:Array Value} {w:World} {b:Bool} (h:Run P E f args (.bool b)) (hg:Gl (.start w)) (hv:VRs (.start w) vs.toList args) :
  Calls P f vs w fun e w'=>e=.returned (.bool b)∧Below w.heap.size w w':=by
 obtain ⟨p1,σ1,⟨N,hN'⟩,hp⟩:=h
 have hb:p1=.bool b:=by
  cases p1 with
  | slice n xs tok=>cases xs <;> simp [PD.strip] at hp
  | _=>simpa [PD.strip] using hp
 subst hb
 have:=calls_bool hE hP hN (hN' N (Nat.le_refl _)) hg hv
 simpa using this
section
variable {H:Type} {enc:TypeId×Value→H} {P:Program}
theorem trodAll_below (hl:laidOutB P=true) {W W':World} (hb:Below W.heap.size W W'):∀ (ts:List TypeId) (vs:List Value) (ds:List (DataW H)) (ps:List MemPlace),(∀ t∈ts,P.readableRec t=true∧t < P.types.size)→(∀ x∈ps,x.block < W.heap.size) →
  DataW.TrodAll enc P W 0 (fun _=>true) true ts vs ds ps→DataW.TrodAll enc P W' 0 (fun b=>decide (b < W.heap.size)) true ts vs ds ps
 | [],[],[],_,_,_,h=>h
 | t::ts,v::vs,d::ds,ps,ht,hp,h=>by
   obtain ⟨p,q,h1,h2,rfl⟩:=h
   obtain ⟨h3,h4⟩:=ht t (by simp)
   exact ⟨p,q,Below.trod hl h3 h4 h1 hb (fun x hx=>hp x (by simp [hx])),trodAll_below hl hb ts vs ds q (fun t' h'=>ht t' (by simp [h'])) (fun x hx=>hp x (by simp [hx])) h2,rfl⟩
 | [],[],_::_,_,_,_,h=>h.elim
 | [],_::_,_,_,_,_,h=>by cases h
 | _::_,[],_,_,_,_,h=>by cases h
 | _::_,_::_,[],_,_,_,h=>h.elim
theorem law_post (hl:laidOutB P=true) {f:Func} {s:ChangeSpec} {W W':World} {args:Array Value} {ds gs:List (DataW H)} {before:List MemPlace} {tb:TypeId} (hvars:s.vars=[])
  (hW:DataW.Whole enc P f.params.toList s.vars false W args.toList ds gs before) (hb:Below W.heap.size W W') (hres:f.resultTypes=#[tb]) (htb:P.underlying tb=some .bool)
  (hps:(f.params.toList.all fun t=>P.readableRec t&&decide (t < P.types.size))=true) (hs:∀ ds:List (DataW H),gs=[]→ds.length=f.params.size→s.fn H (ds++gs)={ results:=[.lit (.bool true)],args:=ds }) :
  s.post enc P f false true false false W args (.bool true) W':=by
 have hW':=hW
 obtain ⟨p,q,hA,hV,rfl,hfz,hnd⟩:=hW
 rw [hvars] at hV
 obtain ⟨rfl,rfl⟩:gs=[]∧q=[]:=by
  cases gs with
  | nil=>exact ⟨rfl,hV⟩
  | cons g r=>exact absurd hV (by intro h;cases h)
 have hlen:ds.length=f.params.size:=by
  have:∀ (ts:List TypeId) (vs:List Value) (ds:List (DataW H)) (ps:List MemPlace),DataW.TrodAll enc P W 0 (fun _=>true) true ts vs ds ps→ds.length=ts.length:=by
   intro ts
   induction ts with
   | nil=>
     intro vs ds ps h
     cases vs <;> cases ds <;> first | rfl | (exact h.elim) | cases h
   | cons t ts ih=>
     intro vs ds ps h
     cases vs with
     | nil=>cases h
     | cons v vs=>
       cases ds with
       | nil=>exact h.elim
       | cons d ds=>
         obtain ⟨p,q,_,h2,_⟩:=h
         simp [ih vs ds q h2]
  have:=this _ _ _ _ hA
  simpa using this
 have e:=hs ds rfl hlen
 have hlt:∀ x∈p,x.block < W.heap.size:=fun x hx=>by simpa using hW'.lt x (by simpa using hx)
 refine ⟨ds,[],_,[],p,[],hW',?_,?_,?_,hb.frame _,fun h=>by cases h⟩
 ·rw [e,hres];exact trodAll_mk1 (shut_bool htb true)
 ·rw [e]
  exact trodAll_below hl hb _ _ _ _ (fun t ht=>by simpa using List.all_eq_true.1 hps t ht) hlt hA
 ·rw [e,hvars];rfl
end
end Go.Kz

namespace Go.Kz
structure By (p:Prop):Prop where
 h:p
structure Fr (p:Prop):Prop where
 h:p
structure Wt (p:Prop):Prop where
 h:p
structure Ns (p:Prop):Prop where
 h:p
theorem By.i {p:Prop} (h:p):By p:=⟨h⟩
theorem Fr.i {p:Prop} (h:p):Fr p:=⟨h⟩
theorem Wt.i {p:Prop} (h:p):Wt p:=⟨h⟩
theorem Ns.i {p:Prop} (h:p):Ns p:=⟨h⟩
section
variable {P:Program} {E:PExt} {call:PCall} {rd:Option Nat} {fl:Nat} {fr fr1:List PD} {ms:List Nat} {σ σ1:List SObj} {Q:PO→Prop} {ops:Array Oper} {K:List PD→List SObj→Prop} {l:List Oper} {dst:Option Tmp}
 {ty:TypeId} {pos:String} {edges:Array Edge} {guard:Option (Nat×Bool)} {t:TypeId} {x y:Operand} {p q r:PD}
theorem SL.move (hw:Wt (Region.wanted ⟨dst,.move x,ty,pos,edges,guard⟩ (pyield ops fr)=true)) (hx:evalO fr x=some p) (hf:Fr (pput fr dst p=fr1)) (k:SQ P call fl ops l fr1 σ K):SQ P call fl ops (⟨dst,.move x,ty,pos,edges,guard⟩::l) fr σ K:=SQ.move hw.h hx hf.h k
theorem SL.assign (hw:Wt (Region.wanted ⟨dst,.assign x,ty,pos,edges,guard⟩ (pyield ops fr)=true)) (hx:evalO fr x=some p) (hf:Fr (pput fr dst p=fr1)) (k:SQ P call fl ops l fr1 σ K):SQ P call fl ops (⟨dst,.assign x,ty,pos,edges,guard⟩::l) fr σ K:=SQ.assign hw.h hx hf.h k
theorem SL.pick {c:Operand} {b:Bool} (hw:Wt (Region.wanted ⟨dst,.pick c x y,ty,pos,edges,guard⟩ (pyield ops fr)=true)) (hc:evalO fr c=some (.bool b)) (hx:cond b (evalO fr x) (evalO fr y)=some p) (hf:Fr (pput fr dst p=fr1)) (k:SQ P call fl ops l fr1 σ K) :
  SQ P call fl ops (⟨dst,.pick c x y,ty,pos,edges,guard⟩::l) fr σ K:=SQ.pick hw.h hc hx hf.h k
theorem SL.binOp {op:BinOp} {u:TypeId} (hw:Wt (Region.wanted ⟨dst,.binOp op t x y u,ty,pos,edges,guard⟩ (pyield ops fr)=true)) (hx:evalO fr x=some p) (hy:evalO fr y=some q) (hr:By (pbin P op t p q=some r)) (hf:Fr (pput fr dst r=fr1)) (k:SQ P call fl ops l fr1 σ K) :
  SQ P call fl ops (⟨dst,.binOp op t x y u,ty,pos,edges,guard⟩::l) fr σ K:=SQ.binOp hw.h hx hy hr.h hf.h k
theorem SL.isnilE {e:TypeId} {b:Bool} {u:TypeId} (hw:Wt (Region.wanted ⟨dst,.binOp .eql t x (.const (.slice none 0 0)) u,ty,pos,edges,guard⟩ (pyield ops fr)=true)) (hx:evalO fr x=some p) (hu:By (P.underlying t=some (.slice e))) (hb:By (pisnil p=some b)) (hf:Fr (pput fr dst (.bool b)=fr1)) (k:SQ P call fl ops l fr1 σ K) :
  SQ P call fl ops (⟨dst,.binOp .eql t x (.const (.slice none 0 0)) u,ty,pos,edges,guard⟩::l) fr σ K:=SQ.isnilE hw.h hx hu.h hb.h hf.h k
theorem SL.isnilN {e:TypeId} {b:Bool} {u:TypeId} (hw:Wt (Region.wanted ⟨dst,.binOp .neq t x (.const (.slice none 0 0)) u,ty,pos,edges,guard⟩ (pyield ops fr)=true)) (hx:evalO fr x=some p) (hu:By (P.underlying t=some (.slice e))) (hb:By (pisnil p=some b)) (hf:Fr (pput fr dst (.bool (!b))=fr1)) (k:SQ P call fl ops l fr1 σ K) :
  SQ P call fl ops (⟨dst,.binOp .neq t x (.const (.slice none 0 0)) u,ty,pos,edges,guard⟩::l) fr σ K:=SQ.isnilN hw.h hx hu.h hb.h hf.h k
theorem SL.make {e:TypeId} {k1 k2:IntKind} {a b:Int} (hw:Wt (Region.wanted ⟨dst,.makeSlice t x y,ty,pos,edges,guard⟩ (pyield ops fr)=true)) (hx:evalO fr x=some (.int k1 a)) (hy:evalO fr y=some (.int k2 b)) (hu:By (P.underlying t=some (.slice e))) (ha:Wt (0≤a∧0≤b))
  (hr:By (pmake P σ t e a.toNat b.toNat=some (r,σ1))) (hf:Fr (pput fr dst r=fr1)) (k:SQ P call fl ops l fr1 σ1 K):SQ P call fl ops (⟨dst,.makeSlice t x y,ty,pos,edges,guard⟩::l) fr σ K:=SQ.make hw.h hx hy hu.h ha.h hr.h hf.h k
theorem SL.convertR {u:TypeId} {id off n size:Nat} (hx:evalO fr x=some (.sref id off n size)) (hw:Wt (Region.wanted ⟨dst,.convert u t x,ty,pos,edges,guard⟩ (pyield ops fr)=true)) (hc:By (tconv u t=true)) (hr:By (prowStr P σ u t (.sref id off n size)=some r)) (hf:Fr (pput fr dst r=fr1)) (k:SQ P call fl ops l fr1 σ K) :
  SQ P call fl ops (⟨dst,.convert u t x,ty,pos,edges,guard⟩::l) fr σ K:=SQ.convertR hw.h hx hc.h hr.h hf.h k
theorem SL.unOp {op:UnOp} (hw:Wt (Region.wanted ⟨dst,.unOp op t x,ty,pos,edges,guard⟩ (pyield ops fr)=true)) (hx:evalO fr x=some p) (hr:By (pun op p=some r)) (hf:Fr (pput fr dst r=fr1)) (k:SQ P call fl ops l fr1 σ K) :
  SQ P call fl ops (⟨dst,.unOp op t x,ty,pos,edges,guard⟩::l) fr σ K:=SQ.unOp hw.h hx hr.h hf.h k
theorem SL.convert {u:TypeId} (hw:Wt (Region.wanted ⟨dst,.convert u t x,ty,pos,edges,guard⟩ (pyield ops fr)=true)) (hx:evalO fr x=some p) (hr:By (pconvAll P u t p=some r)) (hf:Fr (pput fr dst r=fr1)) (k:SQ P call fl ops l fr1 σ K) :
  SQ P call fl ops (⟨dst,.convert u t x,ty,pos,edges,guard⟩::l) fr σ K:=SQ.convert hw.h hx hr.h hf.h k
theorem SL.makeFunc {f:FuncId} {cap:Array Operand} {cs:List PD} (hw:Wt (Region.wanted ⟨dst,.makeFunc (.func f) #[] cap,ty,pos,edges,guard⟩ (pyield ops fr)=true)) (hx:evalsO fr cap.toList=some cs) (hf:Fr (pput fr dst (.func f cs)=fr1)) (k:SQ P call fl ops l fr1 σ K) :
  SQ P call fl ops (⟨dst,.makeFunc (.func f) #[] cap,ty,pos,edges,guard⟩::l) fr σ K:=SQ.makeFunc hw.h hx hf.h k
theorem SL.slice {lo hi mx:Option Operand} {lo' hi' mx':Option (Option PD)} (hw:Wt (Region.wanted ⟨dst,.slice t x lo hi mx,ty,pos,edges,guard⟩ (pyield ops fr)=true)) (hx:evalO fr x=some p) (h1:optO fr lo=some lo') (h2:optO fr hi=some hi') (h3:optO fr mx=some mx')
  (hr:By (pslice P t p lo' hi' mx'=some r)) (hf:Fr (pput fr dst r=fr1)) (k:SQ P call fl ops l fr1 σ K):SQ P call fl ops (⟨dst,.slice t x lo hi mx,ty,pos,edges,guard⟩::l) fr σ K:=SQ.slice hw.h hx h1 h2 h3 hr.h hf.h k
theorem SL.fieldAddr {f:Nat} (hw:Wt (Region.wanted ⟨dst,.fieldAddr t x f,ty,pos,edges,guard⟩ (pyield ops fr)=true)) (hx:evalO fr x=some p) (hr:By (pfieldAddr P t p f=some r)) (hf:Fr (pput fr dst r=fr1)) (k:SQ P call fl ops l fr1 σ K) :
  SQ P call fl ops (⟨dst,.fieldAddr t x f,ty,pos,edges,guard⟩::l) fr σ K:=SQ.fieldAddr hw.h hx hr.h hf.h k
theorem SL.field {f:Nat} (hw:Wt (Region.wanted ⟨dst,.field t x f,ty,pos,edges,guard⟩ (pyield ops fr)=true)) (hx:evalO fr x=some p) (hr:By (pfield P t p f=some r)) (hf:Fr (pput fr dst r=fr1)) (k:SQ P call fl ops l fr1 σ K) :
  SQ P call fl ops (⟨dst,.field t x f,ty,pos,edges,guard⟩::l) fr σ K:=SQ.field hw.h hx hr.h hf.h k
theorem SL.indexAddr (hw:Wt (Region.wanted ⟨dst,.indexAddr t x y,ty,pos,edges,guard⟩ (pyield ops fr)=true)) (hx:evalO fr x=some p) (hy:evalO fr y=some q) (hr:By (pindexAddr P t p q=some r)) (hf:Fr (pput fr dst r=fr1)) (k:SQ P call fl ops l fr1 σ K) :
  SQ P call fl ops (⟨dst,.indexAddr t x y,ty,pos,edges,guard⟩::l) fr σ K:=SQ.indexAddr hw.h hx hy hr.h hf.h k
theorem SL.index (hw:Wt (Region.wanted ⟨dst,.index t x y,ty,pos,edges,guard⟩ (pyield ops fr)=true)) (hx:evalO fr x=some p) (hy:evalO fr y=some q) (hr:By (pindex P t p q=some r)) (hf:Fr (pput fr dst r=fr1)) (k:SQ P call fl ops l fr1 σ K) :
  SQ P call fl ops (⟨dst,.index t x y,ty,pos,edges,guard⟩::l) fr σ K:=SQ.index hw.h hx hy hr.h hf.h k
theorem SL.extract {i:Nat} {vs:List PD} (hw:Wt (Region.wanted ⟨dst,.extract x i,ty,pos,edges,guard⟩ (pyield ops fr)=true)) (hx:evalO fr x=some (.tup vs)) (hr:vs[i]?=some r) (hf:Fr (pput fr dst r=fr1)) (k:SQ P call fl ops l fr1 σ K) :
  SQ P call fl ops (⟨dst,.extract x i,ty,pos,edges,guard⟩::l) fr σ K:=SQ.extract hw.h hx hr hf.h k
theorem SL.nilCheck (hw:Wt (Region.wanted ⟨dst,.nilCheck x,ty,pos,edges,guard⟩ (pyield ops fr)=true)) (hx:evalO fr x=some p) (hp:Wt (p.isPtr=true)) (hf:Fr (pput fr dst p=fr1)) (k:SQ P call fl ops l fr1 σ K) :
  SQ P call fl ops (⟨dst,.nilCheck x,ty,pos,edges,guard⟩::l) fr σ K:=SQ.nilCheckP hw.h hx hp.h hf.h k
theorem SL.build {parts:Array (Nat×Operand)} {ps:List (Nat×PD)} (hw:Wt (Region.wanted ⟨dst,.build t parts,ty,pos,edges,guard⟩ (pyield ops fr)=true)) (hx:evalPartsO fr parts.toList=some ps) (hr:By (pbuild P t ps=some r)) (hf:Fr (pput fr dst r=fr1)) (k:SQ P call fl ops l fr1 σ K) :
  SQ P call fl ops (⟨dst,.build t parts,ty,pos,edges,guard⟩::l) fr σ K:=SQ.build hw.h hx hr.h hf.h k
theorem SL.builtin {b:Builtin} {args:Array Operand} {ts:Array TypeId} {ps:List PD} (hw:Wt (Region.wanted ⟨dst,.call { callee:=.builtin b,args:=args,argTypes:=ts },ty,pos,edges,guard⟩ (pyield ops fr)=true)) (hx:evalsO fr args.toList=some ps) (hr:By (pbuiltin P b ts ps=some r))
  (hf:Fr (pput fr dst r=fr1)) (k:SQ P call fl ops l fr1 σ K):SQ P call fl ops (⟨dst,.call { callee:=.builtin b,args:=args,argTypes:=ts },ty,pos,edges,guard⟩::l) fr σ K:=SQ.builtin hw.h hx hr.h hf.h k
theorem SL.load (hw:Wt (Region.wanted ⟨dst,.load t x,ty,pos,edges,guard⟩ (pyield ops fr)=true)) (hx:evalO fr x=some p) (hr:By (pload P σ t p=some r)) (hf:Fr (pput fr dst r=fr1)) (k:SQ P call fl ops l fr1 σ K):SQ P call fl ops (⟨dst,.load t x,ty,pos,edges,guard⟩::l) fr σ K:=SQ.load hw.h hx hr.h hf.h k
theorem SL.store (hw:Wt (Region.wanted ⟨dst,.store t x y,ty,pos,edges,guard⟩ (pyield ops fr)=true)) (hx:evalO fr x=some p) (hy:evalO fr y=some q) (hr:By (pstore P fl σ t p q=some σ1)) (hf:Fr (pput fr dst (.tup [])=fr1)) (k:SQ P call fl ops l fr1 σ1 K) :
  SQ P call fl ops (⟨dst,.store t x y,ty,pos,edges,guard⟩::l) fr σ K:=SQ.store hw.h hx hy hr.h hf.h k
theorem SL.alloc {p':PD} (hw:Wt (Region.wanted ⟨dst,.alloc t,ty,pos,edges,guard⟩ (pyield ops fr)=true)) (hx:By (pzero P t=some p)) (hp:p.cells.all PD.plain=true) (hb:By (boxed t p=p')) (hr:Ns (σ++[.box p']=σ1)) {n:Nat} (hn:Ns (σ.length=n)) (hf:Fr (pput fr dst (.ptr n 0)=fr1)) (k:SQ P call fl ops l fr1 σ1 K) :
  SQ P call fl ops (⟨dst,.alloc t,ty,pos,edges,guard⟩::l) fr σ K:=SQ.alloc hw.h hx.h hp hb.h hr.h hn.h hf.h k
theorem SL.box (hw:Wt (Region.wanted ⟨dst,.box t x,ty,pos,edges,guard⟩ (pyield ops fr)=true)) (hx:evalO fr x=some p) (hp:p.cells.all PD.plain=true) (hr:Ns (σ++[.box p]=σ1)) {n:Nat} (hn:Ns (σ.length=n)) (hf:Fr (pput fr dst (.ptr n 0)=fr1)) (k:SQ P call fl ops l fr1 σ1 K) :
  SQ P call fl ops (⟨dst,.box t x,ty,pos,edges,guard⟩::l) fr σ K:=SQ.box hw.h hx hp hr.h hn.h hf.h k
theorem SL.buildSlice {len:Nat} {parts:Array (Nat×Operand)} {ps:List (Nat×PD)} (hw:Wt (Region.wanted ⟨dst,.buildSlice t len parts,ty,pos,edges,guard⟩ (pyield ops fr)=true)) (hx:evalPartsO fr parts.toList=some ps) (hr:By (pnewSlice P t len (ps.map fun q=>(q.1,q.2.strip))=some r))
  (hf:Fr (pput fr dst r=fr1)) (k:SQ P call fl ops l fr1 σ K):SQ P call fl ops (⟨dst,.buildSlice t len parts,ty,pos,edges,guard⟩::l) fr σ K:=SQ.buildSlice hw.h hx hr.h hf.h k
theorem SL.append (hw:Wt (Region.wanted ⟨dst,.call { callee:=.builtin .append,args:=#[x,y],argTypes:=#[t,t] },ty,pos,edges,guard⟩ (pyield ops fr)=true)) (hx:evalO fr x=some p) (hy:evalO fr y=some q)
  (hr:By ((if trow t fr.length=true then prowAppend P fr.length fl σ t p q else pappend P fl σ t p q.strip)=some (r,σ1))) (hf:Fr (pput fr dst r=fr1)) (k:SQ P call fl ops l fr1 σ1 K):SQ P call fl ops (⟨dst,.call { callee:=.builtin .append,args:=#[x,y],argTypes:=#[t,t] },ty,pos,edges,guard⟩::l) fr σ K:=SQ.append hw.h hx hy hr.h hf.h k
theorem SL.copy {u:TypeId} (hw:Wt (Region.wanted ⟨dst,.call { callee:=.builtin .copy,args:=#[x,y],argTypes:=#[t,u] },ty,pos,edges,guard⟩ (pyield ops fr)=true)) (hx:evalO fr x=some p) (hy:evalO fr y=some q)
  (hr:By (pcopy P fl σ t u p q=some (r,σ1))) (hf:Fr (pput fr dst r=fr1)) (k:SQ P call fl ops l fr1 σ1 K):SQ P call fl ops (⟨dst,.call { callee:=.builtin .copy,args:=#[x,y],argTypes:=#[t,u] },ty,pos,edges,guard⟩::l) fr σ K:=SQ.copy hw.h hx hy hr.h hf.h k
theorem SL.fcall {g:Operand} {args:Array Operand} {ts:Array TypeId} {f:FuncId} {cap ps:List PD} (hw:Wt (Region.wanted ⟨dst,.call { callee:=.value g,args:=args,argTypes:=ts },ty,pos,edges,guard⟩ (pyield ops fr)=true)) (hg:evalO fr g=some (.func f cap))
  (hx:evalsO fr args.toList=some ps) (hr:By (call fl (.inl f) (ps++cap) σ=some (r,σ1))) (hf:Fr (pput fr dst r=fr1)) (k:SQ P call fl ops l fr1 σ1 K):SQ P call fl ops (⟨dst,.call { callee:=.value g,args:=args,argTypes:=ts },ty,pos,edges,guard⟩::l) fr σ K:=SQ.fcall hw.h hg hx hr.h hf.h k
theorem SL.pass {op:Op} {g:Nat×Bool} (hw:Wt (Region.wanted ⟨dst,op,ty,pos,edges,some g⟩ (pyield ops fr)=false)) (hf:Fr (pput fr dst (.tup [])=fr1)) (k:SQ P call fl ops l fr1 σ K):SQ P call fl ops (⟨dst,op,ty,pos,edges,some g⟩::l) fr σ K:=
 SQ.pass (o:=⟨dst,op,ty,pos,edges,some g⟩) hw.h hf.h k
def noDyn (ops:Array Oper):Bool:=ops.toList.all fun o=>match o.op with
 | .call { callee:=.value (.tmp _),.. }=>false
 | _=>true
theorem WL.reg {id:Nat} {y:Code} (_hs:noDyn ops=true) (h:SQ P (pcallE E) fl ops ops.toList fr σ (fun fr' σ'=>Wp P E rd y fl fr' ms σ' Q)):Wp P E rd (.seq (.region id ops false) y) fl fr ms σ Q:=by
 obtain ⟨fr',σ',h1,h2⟩:=h.ex
 exact .seq (.region h1 (.normal h2))
theorem WL.drawP {id:Nat} {y:Code} (hU:Uni E) (_hd:noDyn ops=true) (hs:(fastOk ops&&noOwn ops)=true) (h:SQ P (pcallP E) fl ops ops.toList fr σ (fun fr' σ'=>Wp P E rd y fl fr' ms σ' Q)):Wp P E rd (.seq (.region id ops true) y) fl fr ms σ Q:=by
 obtain ⟨fr',σ',h1,h2⟩:=h.ex
 exact .seq (.drawP hU hs h1 (.normal h2))
theorem WL.drawF {id:Nat} {y:Code} (_hd:noDyn ops=true) (hs:(fastOk ops&&fastFree ops)=true) (h:SQ P (pcallE E) fl ops ops.toList fr σ (fun fr' σ'=>Wp P E rd y fl fr' ms σ' Q)):Wp P E rd (.seq (.region id ops true) y) fl fr ms σ Q:=by
 obtain ⟨fr',σ',h1,h2⟩:=h.ex
 exact .seq (.drawF hs h1 (.normal h2))
theorem WL.reg1 {id:Nat} (_hs:noDyn ops=true) (h:SQ P (pcallE E) fl ops ops.toList fr σ (fun fr' σ'=>Q ⟨.normal,fr',ms,σ'⟩)):Wp P E rd (.region id ops false) fl fr ms σ Q:=.regionS h
theorem WL.skip {y:Code} (h:Wp P E rd y fl fr ms σ Q):Wp P E rd (.seq .skip y) fl fr ms σ Q:=.seq (.skip (.normal h))
theorem WL.ct {g:Operand} {x y:Code} (hg:evalO fr g=some (.bool true)) (h1:Wp P E rd x fl fr ms σ Q):Wp P E rd (.cond g x y) fl fr ms σ Q:=.cond_true (evalO_ok hg) h1
theorem WL.cf {g:Operand} {x y:Code} (hg:evalO fr g=some (.bool false)) (h1:Wp P E rd y fl fr ms σ Q):Wp P E rd (.cond g x y) fl fr ms σ Q:=.cond_false (evalO_ok hg) h1
theorem exF {c:Prop} {σ σ':List SObj} {fr:List PD} {A:(Nat→PD)→List PD} (hc:c) (h:fr=A (fun n=>fr.getD n (.tup []))) (hs:σ=σ'):∃ g:Nat→PD,c∧fr=A g∧σ=σ':=⟨_,hc,h,hs⟩
end
end Go.Kz

namespace Go.Kz
theorem WL.drawP1 {P:Program} {E:PExt} {rd:Option Nat} {fl:Nat} {fr:List PD} {ms:List Nat} {σ:List SObj} {Q:PO→Prop} {ops:Array Oper} {id:Nat} (hU:Uni E) (_hd:noDyn ops=true) (hs:(fastOk ops&&noOwn ops)=true) (h:SQ P (pcallP E) fl ops ops.toList fr σ (fun fr' σ'=>Q ⟨.normal,fr',ms,σ'⟩)) :
  Wp P E rd (.region id ops true) fl fr ms σ Q:=.drawPS hU hs h
theorem WL.drawF1 {P:Program} {E:PExt} {rd:Option Nat} {fl:Nat} {fr:List PD} {ms:List Nat} {σ:List SObj} {Q:PO→Prop} {ops:Array Oper} {id:Nat} (_hd:noDyn ops=true) (hs:(fastOk ops&&fastFree ops)=true) (h:SQ P (pcallE E) fl ops ops.toList fr σ (fun fr' σ'=>Q ⟨.normal,fr',ms,σ'⟩)) :
  Wp P E rd (.region id ops true) fl fr ms σ Q:=.drawFS hs h
end Go.Kz

namespace Go.Kz
inductive CK where
 | b
 | i (k:IntKind)
 | s
def andO (c:Bool):Option Bool→Option Bool
 | some d=>some (c&&d)
 | none=>none
def cmpK:List CK→List PD→List PD→Option Bool
 | [],[],[]=>some true
 | .b::ks,.bool a::xs,.bool b::ys=>andO (decide (a=b)) (cmpK ks xs ys)
 | .i k::ks,.int k1 a::xs,.int k2 b::ys=>if k1=k∧k2=k then andO (decide (a=b)) (cmpK ks xs ys) else none
 | .s::ks,.str a::xs,.str b::ys=>andO (decide (a=b)) (cmpK ks xs ys)
 | _,_,_=>none
def pplanF (pl:TypeId→Option (List CK)) (P:Program):Nat→List Field→Option (List CK)
 | _,[]=>some []
 | off,f::fs=>if f.name= "_" ∨ f.offset≠off then none else
   match pl f.type,psize P f.type with
   | some ks,some n=>if ks.length=n∧0 < n then (match pplanF pl P (off+n) fs with | some r=>some (ks++r) | none=>none) else none
   | _,_=>none
def pplan (P:Program):Nat→TypeId→Option (List CK)
 | 0,_=>none
 | d+1,t=>match P.underlying t with
   | some .bool=>some [.b]
   | some (.int k)=>some [.i k]
   | some .string=>some [.s]
   | some (.struct fs)=>if P.stoodInHeld t then none else pplanF (pplan P d) P 0 fs.toList
   | some (.array len e)=>match pplan P d e,psize P e with
     | some ks,some n=>if ks.length=n∧0 < n then some (List.replicate len ks).flatten else none
     | _,_=>none
   | _=>none
def CellsAs (P:Program) (t:TypeId) (x:PD) (xs:List PD):Prop:=(pagg P t=some true∧x=.agg xs)∨(pagg P t=some false∧xs=[x])
theorem cmpK_nil:∀ {xs ys:List PD} {b:Bool},cmpK [] xs ys=some b→b=true
 | [],[],b,h=>by simp only [cmpK,Option.some.injEq] at h;exact h.symm
 | [],_::_,_,h=>by simp [cmpK] at h
 | _::_,_,_,h=>by simp [cmpK] at h
theorem cmpK_append:∀ (ks r:List CK) (xs ys:List PD) (b:Bool),cmpK (ks++r) xs ys=some b →
  ∃ b1 b2,cmpK ks (xs.take ks.length) (ys.take ks.length)=some b1∧cmpK r (xs.drop ks.length) (ys.drop ks.length)=some b2∧b=(b1&&b2)∧ks.length≤xs.length∧ks.length≤ys.length
 | [],r,xs,ys,b,h=>⟨true,b,rfl,h,by simp,by simp,by simp⟩
 | k::ks,r,xs,ys,b,h=>by
   have key:∀ (c:Bool) (us vs:List PD),andO c (cmpK (ks++r) us vs)=some b→∃ b1 b2,andO c (cmpK ks (us.take ks.length) (vs.take ks.length))=some b1∧cmpK r (us.drop ks.length) (vs.drop ks.length)=some b2∧b=(b1&&b2)∧ks.length≤us.length∧ks.length≤vs.length:=by
    intro c us vs hc
    cases h1:cmpK (ks++r) us vs with
    | none=>rw [h1] at hc;cases hc
    | some d=>
      rw [h1] at hc
      simp only [andO,Option.some.injEq] at hc
      obtain ⟨b1,b2,e1,e2,e3,e4,e5⟩:=cmpK_append ks r us vs d h1
      exact ⟨c&&b1,b2,by rw [e1];rfl,e2,by rw [← hc,e3,Bool.and_assoc],e4,e5⟩
   match k,xs,ys,h with
   | .b,.bool a::xs,.bool a'::ys,h=>
     obtain ⟨b1,b2,e1,e2,e3,e4,e5⟩:=key _ xs ys h
     exact ⟨b1,b2,e1,e2,e3,by simpa using e4,by simpa using e5⟩
   | .i k,.int k1 a::xs,.int k2 a'::ys,h=>
     simp only [List.cons_append,cmpK] at h
     split at h
     ·rename_i hk
      obtain ⟨b1,b2,e1,e2,e3,e4,e5⟩:=key _ xs ys h
      exact ⟨b1,b2,by simpa only [List.length_cons,List.take_succ_cons,cmpK,if_pos hk] using e1,e2,e3,by simpa using e4,by simpa using e5⟩
     ·cases h
   | .s,.str a::xs,.str a'::ys,h=>
     obtain ⟨b1,b2,e1,e2,e3,e4,e5⟩:=key _ xs ys h
     exact ⟨b1,b2,e1,e2,e3,by simpa using e4,by simpa using e5⟩
section
variable {P:Program}
theorem plan_agg {d:Nat} {t:TypeId} {ks:List CK} (h:pplan P d t=some ks):(pagg P t=some true)∨(pagg P t=some false∧ks.length=1):=by
 cases d with
 | zero=>cases h
 | succ d=>
   unfold pplan at h
   unfold pagg
   split at h <;> rename_i hu <;> try simp only [hu]
   ·right;simp only [Option.some.injEq] at h;subst h;exact ⟨trivial,rfl⟩
   ·right;simp only [Option.some.injEq] at h;subst h;exact ⟨trivial,rfl⟩
   ·right;simp only [Option.some.injEq] at h;subst h;exact ⟨trivial,rfl⟩
   ·left;trivial
   ·left;trivial
   ·cases h
theorem plan_part {d:Nat} {t:TypeId} {ks:List CK} (h:pplan P d t=some ks) (hs:psize P t=some ks.length) {xs:List PD} {off:Nat} (hl:off+ks.length≤xs.length):∃ x,ppart P t xs off=some x∧CellsAs P t x ((xs.drop off).take ks.length):=by
 rcases plan_agg h with ha | ⟨ha,h1⟩
 ·exact ⟨_,by simp only [ppart,ha,hs,hl,if_true],.inl ⟨ha,rfl⟩⟩
 ·rw [h1] at hl
  have hlt:off < xs.length:=by omega
  refine ⟨xs[off],by simp only [ppart,ha,hs,List.getElem?_eq_getElem hlt],.inr ⟨ha,?_⟩⟩
  rw [h1,List.drop_eq_getElem_cons hlt]
  rfl
theorem peqIn_plan:∀ (d:Nat) (t:TypeId) (ks:List CK) (x y:PD) (xs ys:List PD) (b:Bool),pplan P d t=some ks→CellsAs P t x xs→CellsAs P t y ys→cmpK ks xs ys=some b→peqIn P d t x y=some b
 | 0,_,_,_,_,_,_,_,h,_,_,_=>by cases h
 | d+1,t,ks,x,y,xs,ys,b,h,hx,hy,hc=>by
   unfold pplan at h
   unfold peqIn
   have fin:∀ {z:PD} {zs:List PD},CellsAs P t z zs→pagg P t=some true→z=.agg zs:=fun hz ha=>by
    rcases hz with ⟨_,e⟩ | ⟨e,_⟩
    ·exact e
    ·rw [ha] at e;cases e
   have one:∀ {z:PD} {zs:List PD},CellsAs P t z zs→pagg P t=some false→zs=[z]:=fun hz ha=>by
    rcases hz with ⟨e,_⟩ | ⟨_,e⟩
    ·rw [ha] at e;cases e
    ·exact e
   split at h <;> rename_i hu <;> try simp only [hu]
   ·simp only [Option.some.injEq] at h;subst h
    have ha:pagg P t=some false:=by simp only [pagg,hu]
    rw [one hx ha,one hy ha] at hc
    cases x <;> cases y <;> simp only [cmpK,reduceCtorEq] at hc ⊢
    simpa [andO,BEq.beq] using hc
   ·rename_i k
    simp only [Option.some.injEq] at h;subst h
    have ha:pagg P t=some false:=by simp only [pagg,hu]
    rw [one hx ha,one hy ha] at hc
    cases x <;> cases y <;> simp only [cmpK,reduceCtorEq] at hc ⊢
    split at hc
    ·rename_i hk
     rw [if_pos (hk.1.trans hk.2.symm)]
     simpa [andO,BEq.beq] using hc
    ·cases hc
   ·simp only [Option.some.injEq] at h;subst h
    have ha:pagg P t=some false:=by simp only [pagg,hu]
    rw [one hx ha,one hy ha] at hc
    cases x <;> cases y <;> simp only [cmpK,reduceCtorEq] at hc ⊢
    simp only [andO,Bool.and_true,Option.some.injEq] at hc
    rw [← hc];congr 1;rw [Bool.eq_iff_iff];simp
   ·rename_i fs
    split at h
    ·cases h
    ·rename_i hst
     have ha:pagg P t=some true:=by simp only [pagg,hu]
     obtain rfl:=fin hx ha
     obtain rfl:=fin hy ha
     simp only [hst,Bool.false_eq_true,if_false]
     have key:∀ (fs:List Field) (off:Nat) (r:List CK) (b:Bool),pplanF (pplan P d) P off fs=some r→cmpK r (xs.drop off) (ys.drop off)=some b→peqFields (peqIn P d) P xs ys fs=some b:=by
      intro fs
      induction fs with
      | nil=>
        intro off r b hr hb
        simp only [pplanF,Option.some.injEq] at hr
        subst hr
        unfold peqFields
        rw [cmpK_nil hb]
      | cons f fs ih=>
        intro off r b hr hb
        simp only [pplanF] at hr
        split at hr
        ·cases hr
        ·rename_i hn
         have hn1:¬ f.name= "_" := fun e=>hn (.inl e)
         have hn2:f.offset=off:=by
          rcases Nat.decEq f.offset off with e | e
          ·exact absurd (.inr e) hn
          ·exact e
         split at hr
         ·rename_i ks n h1 h2
          split at hr
          ·rename_i hlen
           split at hr
           ·rename_i r' h3
            simp only [Option.some.injEq] at hr
            subst hr
            obtain ⟨b1,b2,e1,e2,e3,e4,e5⟩:=cmpK_append _ _ _ _ _ hb
            obtain ⟨hlen,hpos⟩:=hlen
            have hpart:∀ {zs:List PD},ks.length≤(zs.drop off).length→∃ x,ppart P f.type zs off=some x∧CellsAs P f.type x ((zs.drop off).take ks.length):=by
             intro zs hz
             simp only [List.length_drop] at hz
             exact plan_part h1 (by rw [h2,hlen]) (by omega)
            obtain ⟨x1,p1,c1⟩:=hpart e4
            obtain ⟨y1,p2,c2⟩:=hpart e5
            have q:=peqIn_plan d f.type ks x1 y1 _ _ b1 h1 c1 c2 e1
            unfold peqFields
            rw [if_neg hn1,hn2]
            simp only [p1,p2,q]
            rw [List.drop_drop,List.drop_drop,hlen] at e2
            have q2:=ih (off+n) r' b2 h3 e2
            cases b1 with
            | true=>simpa [e3] using q2
            | false=>simp [e3]
           ·cases hr
          ·cases hr
         ·cases hr
     exact key fs.toList 0 ks b h (by simpa using hc)
   ·rename_i len e
    split at h
    ·rename_i ks' n h1 h2
     split at h
     ·rename_i hlen
      simp only [Option.some.injEq] at h
      subst h
      have ha:pagg P t=some true:=by simp only [pagg,hu]
      obtain rfl:=fin hx ha
      obtain rfl:=fin hy ha
      simp only [h2]
      have key:∀ (m i:Nat) (b:Bool),cmpK (List.replicate m ks').flatten (xs.drop (i*n)) (ys.drop (i*n))=some b→peqArr (peqIn P d e) P e n xs ys i m=some b:=by
       intro m
       induction m with
       | zero=>
         intro i b hb
         unfold peqArr
         simp only [List.replicate_zero,List.flatten_nil] at hb
         rw [cmpK_nil hb]
       | succ m ih=>
         intro i b hb
         rw [List.replicate_succ,List.flatten_cons] at hb
         obtain ⟨b1,b2,e1,e2,e3,e4,e5⟩:=cmpK_append _ _ _ _ _ hb
         obtain ⟨hlen,hpos⟩:=hlen
         have hpart:∀ {zs:List PD},ks'.length≤(zs.drop (i*n)).length→∃ x,ppart P e zs (i*n)=some x∧CellsAs P e x ((zs.drop (i*n)).take ks'.length):=by
          intro zs hz
          simp only [List.length_drop] at hz
          exact plan_part h1 (by rw [h2,hlen]) (by omega)
         obtain ⟨x1,p1,c1⟩:=hpart e4
         obtain ⟨y1,p2,c2⟩:=hpart e5
         have q:=peqIn_plan d e ks' x1 y1 _ _ b1 h1 c1 c2 e1
         unfold peqArr
         simp only [p1,p2,q]
         rw [List.drop_drop,List.drop_drop,hlen,← Nat.succ_mul] at e2
         have q2:=ih (i+1) b2 e2
         cases b1 with
         | true=>simpa [e3] using q2
         | false=>simp [e3]
      exact key len 0 b (by simpa using hc)
     ·cases h
    ·cases h
   ·cases h
theorem pbin_eql_plan {t:TypeId} {ks:List CK} {xs ys:List PD} {b:Bool} (hg:P.eqGuardType P.depth t=false) (h:pplan P 12 t=some ks) (ha:pagg P t=some true) (hc:cmpK ks xs ys=some b) :
  pbin P .eql t (.agg xs) (.agg ys)=some (.bool b):=by
 have:=peqIn_plan 12 t ks _ _ _ _ b h (.inl ⟨ha,rfl⟩) (.inl ⟨ha,rfl⟩) hc
 simp only [pbin,peq,hg,Bool.false_eq_true,if_false,this]
theorem pbin_neq_plan {t:TypeId} {ks:List CK} {xs ys:List PD} {b:Bool} (hg:P.eqGuardType P.depth t=false) (h:pplan P 12 t=some ks) (ha:pagg P t=some true) (hc:cmpK ks xs ys=some b) :
  pbin P .neq t (.agg xs) (.agg ys)=some (.bool (!b)):=by
 have:=peqIn_plan 12 t ks _ _ _ _ b h (.inl ⟨ha,rfl⟩) (.inl ⟨ha,rfl⟩) hc
 simp only [pbin,peq,hg,Bool.false_eq_true,if_false,this]
end
end Go.Kz

namespace Go.Kz
section
variable {α:Type} {e:Em α} {k:Nat} {tok:Tok}
noncomputable def Em.decs (e:Em α):List PD→Option (List α)
 | []=>some []
 | p::ps=>match e.dec p,e.decs ps with
   | some x,some xs=>some (x::xs)
   | _,_=>none
theorem Em.decs_some:∀ {ps:List PD} {xs:List α},e.decs ps=some xs→ps.map PD.strip=xs.map e.emb
 | [],xs,h=>by simp only [Em.decs,Option.some.injEq] at h;subst h;rfl
 | p::ps,xs,h=>by
   simp only [Em.decs] at h
   split at h
   ·rename_i x ys h1 h2
    simp only [Option.some.injEq] at h;subst h
    simp only [List.map_cons,Em.of_dec h1,Em.decs_some h2]
   ·cases h
theorem Em.decs_of:∀ {ps:List PD} {xs:List α},ps.map PD.strip=xs.map e.emb→e.decs ps=some xs
 | [],[],_=>rfl
 | [],_::_,h=>by simp at h
 | _::_,[],h=>by simp at h
 | p::ps,x::xs,h=>by
   simp only [List.map_cons,List.cons.injEq] at h
   simp only [Em.decs,Em.dec_some h.1,Em.decs_of h.2]
@[simp] theorem decs_nil:e.decs []=some []:=rfl
@[simp] theorem decs_cons {p:PD} {ps:List PD}:e.decs (p::ps)=(match e.dec p,e.decs ps with | some x,some xs=>some (x::xs) | _,_=>none):=rfl
@[simp] theorem dec_list_cons {p:PD} {ps:List PD}:(e.list k).dec (.slice k (p::ps) tok)=e.decs (p::ps):=by
  cases h:e.decs (p::ps) with
  | some xs=>
    have h1:=Em.decs_some h
    refine Em.dec_some ?_
    rw [PD.strip_slice,h1]
    cases xs with
    | nil=>simp at h1
    | cons x xs=>simp [sz]
  | none=>
    cases h2:(e.list k).dec (.slice k (p::ps) tok) with
    | none=>rfl
    | some xs=>
      have h3:=Em.of_dec h2
      rw [PD.strip_slice] at h3
      simp only [emb_list,PD.slice.injEq,and_true] at h3
      rw [Em.decs_of h3.2] at h
      cases h
end
end Go.Kz

namespace Go.Kz
open Go.RowKit
def pureF (pl:TypeId→Bool) (P:Program):Nat→List Field→Option Nat
 | off,[]=>some off
 | off,f::fs=>if f.offset=off∧pl f.type=true then pureF pl P (off+P.cellsOf f.type) fs else none
def pureT (P:Program):Nat→TypeId→Bool
 | 0,_=>false
 | d+1,t=>match P.underlying t with
   | some .bool | some (.int _) | some .string=>P.cellsOf t==1
   | some (.slice e)=>P.cellsOf t==1&&pureT P d e&&decide (0 < P.cellsOf e)
   | some (.struct fs)=>pureF (pureT P d) P 0 fs.toList==some (P.cellsOf t)
   | some (.array n e)=>pureT P d e&&P.cellsOf t==n*P.cellsOf e
   | _=>false
def TypedF (T:TypeId→List PD→Prop):List Field→List PD→Prop
 | [],ps=>ps=[]
 | f::fs,ps=>∃ a b,ps=a++b∧T f.type a∧TypedF T fs b
def asPD (P:Program) (t:TypeId) (ps:List PD):PD:=match pagg P t with
 | some true=>.agg ps
 | _=>ps.headD (.tup [])
def Typed (P:Program):Nat→TypeId→List PD→Prop
 | 0,_,_=>False
 | d+1,t,ps=>match P.underlying t with
   | some .bool=>∃ b,ps=[.bool b]
   | some (.int k)=>∃ n,ps=[.int k n]∧(Lit.int k n).wf=true
   | some .string=>∃ s,ps=[.str s]∧s.length≤maxLen
   | some (.slice e)=>∃ xs:List (List PD),xs.length≤maxLen∧(∀ x∈xs,Typed P d e x)∧ps=[.slice (sz (P.cellsOf e) xs) (xs.map (asPD P e)) .any]
   | some (.struct fs)=>TypedF (Typed P d) fs.toList ps
   | some (.array n e)=>∃ xs:List (List PD),xs.length=n∧(∀ x∈xs,Typed P d e x)∧ps=xs.flatten
   | _=>False
theorem TypedF.length {P:Program} {d:Nat} (ih:∀ t ps,pureT P d t=true→Typed P d t ps→ps.length=P.cellsOf t):∀ (fs:List Field) (off n:Nat) (ps:List PD),pureF (pureT P d) P off fs=some n→TypedF (Typed P d) fs ps→off+ps.length=n
 | [],off,n,ps,h,ht=>by
   simp only [pureF,Option.some.injEq] at h
   simp only [TypedF] at ht
   subst ht h
   rfl
 | f::fs,off,n,ps,h,ht=>by
   simp only [pureF] at h
   split at h
   ·rename_i hf
    obtain ⟨a,b,rfl,ha,hb⟩:=ht
    have h1:=ih _ _ hf.2 ha
    have h2:=TypedF.length ih fs _ n b h hb
    simp only [List.length_append]
    omega
   ·cases h
theorem Typed.length {P:Program}:∀ (d:Nat) (t:TypeId) (ps:List PD),pureT P d t=true→Typed P d t ps→ps.length=P.cellsOf t
 | 0,_,_,h,_=>by cases h
 | d+1,t,ps,h,ht=>by
   unfold pureT at h
   unfold Typed at ht
   split at h <;> rename_i hu <;> try simp only [hu] at ht
   ·obtain ⟨b,rfl⟩:=ht;simp at h;simp [h]
   ·obtain ⟨b,rfl,_⟩:=ht;simp at h;simp [h]
   ·obtain ⟨b,rfl,_⟩:=ht;simp at h;simp [h]
   ·obtain ⟨xs,_,_,rfl⟩:=ht;simp at h;simp [h]
   ·simp only [beq_iff_eq] at h
    have:=TypedF.length (Typed.length d) _ 0 _ ps h ht
    omega
   ·rename_i n e
    simp only [Bool.and_eq_true,beq_iff_eq] at h
    obtain ⟨xs,h1,h2,rfl⟩:=ht
    rw [h.2,← h1]
    have key:∀ (xs:List (List PD)),(∀ x∈xs,Typed P d e x)→xs.flatten.length=xs.length*P.cellsOf e:=by
     intro xs
     induction xs with
     | nil=>intro _;simp
     | cons x xs ih=>
       intro hx
       rw [List.flatten_cons,List.length_append,Typed.length d e x h.1 (hx x (by simp)),ih (fun y hy=>hx y (by simp [hy])),List.length_cons,Nat.succ_mul]
       omega
    exact key xs h2
section
variable {H:Type} {enc:TypeId×Value→H} {P:Program} {w:World} {base:Nat} {sp:Nat→Bool} {held:Bool}
structure Stands (w:World) (cs:List Value) (ps:List PD):Prop where
 vrs:VRs (.start w) cs ps
 one:∀ v∈cs,v.oneCell'=true
theorem Stands.nil:Stands w [] []:=⟨⟨rfl,by simp⟩,by simp⟩
theorem Stands.single {v:Value} {p:PD} (h:VR (.start w) v p) (ho:v.oneCell'=true):Stands w [v] [p]:=
 ⟨⟨rfl,fun i u d h1 h2=>by cases i with
   | zero=>simp at h1 h2;subst h1 h2;exact h
   | succ i=>simp at h1⟩,by simpa using ho⟩
theorem Stands.append {a b:List Value} {ps qs:List PD} (h:Stands w a ps) (k:Stands w b qs):Stands w (a++b) (ps++qs):=
 ⟨h.vrs.append k.vrs,fun v hv=>(List.mem_append.1 hv).elim (h.one v) (k.one v)⟩
theorem Stands.agg {cs:List Value} {ps:List PD} (h:Stands w cs ps):VR (.start w) (.agg cs.toArray) (.agg ps):=.agg cs ps h.vrs.1 h.one h.vrs.2
theorem asPD_cells {t:TypeId} {d:Nat} {ps:List PD} (h:pureT P d t=true) (ht:Typed P d t ps):(asPD P t ps).cells=ps:=by
 cases d with
 | zero=>cases h
 | succ d=>
   unfold pureT at h
   unfold Typed at ht
   unfold asPD pagg
   split at h <;> rename_i hu <;> try simp only [hu] at ht ⊢
   ·obtain ⟨b,rfl⟩:=ht;rfl
   ·obtain ⟨b,rfl,_⟩:=ht;rfl
   ·obtain ⟨b,rfl,_⟩:=ht;rfl
   ·obtain ⟨xs,_,_,rfl⟩:=ht;rfl
   ·rfl
   ·rfl
theorem trod_bool' {fuel:Nat} {t:TypeId} {cs:List Value} {x:DataW H×List MemPlace} (ht:P.underlying t=some .bool) (h:DataW.trod enc P w base sp held fuel t cs=some x):∃ b,cs=[.bool b]:=by
 cases fuel with
 | zero=>simp [DataW.trod] at h
 | succ n=>
   unfold DataW.trod at h
   rw [ht] at h
   split at h <;> simp_all
theorem trod_typed:∀ (fuel d:Nat) (t:TypeId) (cs:List Value) (x:DataW H×List MemPlace),DataW.trod enc P w base sp held fuel t cs=some x→pureT P d t=true→∃ ps,Typed P d t ps∧Stands w cs ps
 | _,0,_,_,_,_,h=>by cases h
 | fuel,d+1,t,cs,x,hx,h=>by
   unfold pureT at h
   split at h <;> rename_i hu <;> try simp only [Typed,hu]
   ·obtain ⟨b,rfl⟩:=trod_bool' hu hx
    exact ⟨_,⟨b,rfl⟩,Stands.single (.bool _) rfl⟩
   ·rename_i k
    obtain ⟨n,rfl,_,hw⟩:=DataW.trod_int hu hx
    exact ⟨_,⟨n,rfl,hw⟩,Stands.single (.int _ _) rfl⟩
   ·obtain ⟨s,rfl,_,hs⟩:=DataW.trod_string hu hx
    refine ⟨_,⟨s.data.toList,rfl,by rw [Array.length_toList];exact hs⟩,Stands.single ?_ rfl⟩
    have:s=⟨s.data.toList.toArray⟩:=by simp
    conv=>lhs;rw [this]
    exact .str _
   ·rename_i e
    simp only [Bool.and_eq_true,decide_eq_true_eq] at h
    obtain ⟨⟨_,he⟩,hpos⟩:=h
    rcases DataW.trod_slice hu hx with ⟨rfl,_⟩ | ⟨a,len,cap,elems,rest,n,rfl,rfl,hrest⟩
    ·exact ⟨_,⟨[],by simp,by simp,rfl⟩,Stands.single (.slice none 0 0 0 [] .any [] rfl (Nat.le_refl _) (Nat.zero_le _) (by simp) rfl (by simp) (by simp) (by simp) trivial) rfl⟩
    ·obtain ⟨_,hlc,hcm,hel,hall,_,_⟩:=hrest.2
     have key:∀ (k i:Nat),i+k=len→∃ (ys:List (List PD)) (fl:List Value),ys.length=k∧(∀ y∈ys,Typed P d e y)∧Stands w fl ys.flatten∧fl.length=k*P.cellsOf e ∧
       ∀ (j:Nat) (v:Value),fl[j]?=some v→w.cell? (a.add (i*P.cellsOf e+j))=some v:=by
      intro k
      induction k with
      | zero=>intro i _;exact ⟨[],[],rfl,by simp,Stands.nil,by simp,by simp⟩
      | succ k ih=>
        intro i hi
        obtain ⟨ys,fl,h1,h2,h3,h4,h5⟩:=ih (i+1) (by omega)
        have h6:=hall i (by omega)
        have hlt:i < elems.length:=by omega
        rw [List.getElem?_eq_getElem hlt,Option.bind_eq_some_iff] at h6
        obtain ⟨vs,h7,h8⟩:=h6
        obtain ⟨_,h9,h10⟩:=World.cells?_some h7
        obtain ⟨qs,h11,h12⟩:=trod_typed n d e _ _ h8 he
        refine ⟨qs::ys,vs++fl,by simp [h1],by simpa using ⟨h11,h2⟩,by rw [List.flatten_cons];exact h12.append h3,by rw [List.length_append,h9,h4,Nat.succ_mul];omega,fun j v hv=>?_⟩
        rcases Nat.lt_or_ge j vs.length with hj | hj
        ·rw [List.getElem?_append_left hj] at hv
         have:=h10 j (by omega)
         rw [add_add'] at this
         rw [this,hv]
        ·rw [List.getElem?_append_right hj] at hv
         have:=h5 _ v hv
         rw [h9] at this hj
         rw [← this,Nat.succ_mul]
         congr 2
         omega
     obtain ⟨ys,fl,h1,h2,h3,h4,h5⟩:=key len 0 (by omega)
     have hcells:∀ y∈ys,(asPD P e y).cells=y:=fun y hy=>asPD_cells he (h2 y hy)
     have hflat:(ys.map (asPD P e)).flatMap PD.cells=ys.flatten:=by
      have:∀ (ys:List (List PD)),(∀ y∈ys,(asPD P e y).cells=y)→(ys.map (asPD P e)).flatMap PD.cells=ys.flatten:=by
       intro ys
       induction ys with
       | nil=>intro _;rfl
       | cons y ys ih=>
         intro hy
         rw [List.map_cons,List.flatMap_cons,List.flatten_cons,hy y (by simp),ih (fun z hz=>hy z (by simp [hz]))]
      exact this ys hcells
     refine ⟨_,⟨ys,by omega,h2,rfl⟩,Stands.single (.slice (some a) len cap _ _ .any fl (by simp [h1]) hlc hcm ?_ ?_ h3.one ?_ ?_ trivial) rfl⟩
     ·intro x hx
      obtain ⟨y,hy,rfl⟩:=List.mem_map.1 hx
      rw [hcells y hy,Typed.length d e y he (h2 y hy),sz_ne (List.ne_nil_of_mem hy)]
     ·rw [h4]
      cases ys with
      | nil=>simp at h1;subst h1;simp
      | cons y ys=>simp [sz]
     ·intro j v hv
      have:=h5 j v hv
      rw [Nat.zero_mul,Nat.zero_add] at this
      exact ⟨a,rfl,this,av_start _⟩
     ·intro j v p hv hp
      rw [hflat] at hp
      exact h3.vrs.2 j v p hv hp
   ·rename_i fs
    simp only [beq_iff_eq] at h
    obtain ⟨xs,n,rfl,_,hl,hn,hf⟩:=DataW.trod_struct hu hx
    have key:∀ (gs:List Field) (i:Nat) (off m:Nat),gs=fs.toList.drop i→pureF (pureT P d) P off gs=some m→m≤cs.length→off≤m∧∃ ps,TypedF (Typed P d) gs ps∧Stands w ((cs.drop off).take (m - off)) ps:=by
     intro gs
     induction gs with
     | nil=>
       intro i off m _ hp hm
       simp only [pureF,Option.some.injEq] at hp
       subst hp
       exact ⟨Nat.le_refl _,[],rfl,by simpa using Stands.nil⟩
     | cons g gs ih=>
       intro i off m hg hp hm
       simp only [pureF] at hp
       split at hp
       ·rename_i hc
        have hgi:fs[i]?=some g:=by
         have:(fs.toList.drop i)[0]?=some g:=by rw [← hg];rfl
         simpa using this
        have hgs:gs=fs.toList.drop (i+1):=by
         rw [← List.tail_drop,← hg];rfl
        obtain ⟨h1,ps,h2,h3⟩:=ih (i+1) _ m hgs hp hm
        have h4:=hf i g hgi
        have hlt:i < xs.length:=by
         rw [hn]
         exact (Array.getElem?_eq_some_iff.1 hgi).1
        rw [List.getElem?_eq_getElem hlt] at h4
        obtain ⟨qs,h5,h6⟩:=trod_typed n d g.type _ _ h4 hc.2
        refine ⟨by omega,qs++ps,⟨qs,ps,rfl,h5,h2⟩,?_⟩
        rw [hc.1] at h6
        have e:(cs.drop off).take (m - off)=(cs.drop off).take (P.cellsOf g.type)++(cs.drop (off+P.cellsOf g.type)).take (m - (off+P.cellsOf g.type)):=by
         have:m - off=P.cellsOf g.type+(m - (off+P.cellsOf g.type)):=by omega
         rw [this,List.take_add,List.drop_drop]
        rw [e]
        exact h6.append h3
       ·cases hp
    obtain ⟨_,ps,h1,h2⟩:=key fs.toList 0 0 _ (by simp) h (by omega)
    refine ⟨ps,h1,?_⟩
    simpa [← hl] using h2
   ·rename_i n e
    simp only [Bool.and_eq_true,beq_iff_eq] at h
    obtain ⟨xs,m,rfl,_,hl,hn,hf⟩:=DataW.trod_array hu hx
    have key:∀ (k i:Nat),i+k=n→∃ ys:List (List PD),ys.length=k∧(∀ y∈ys,Typed P d e y)∧Stands w (cs.drop (i*P.cellsOf e)) ys.flatten:=by
     intro k
     induction k with
     | zero=>
       intro i hi
       have:cs.drop (i*P.cellsOf e)=[]:=List.drop_eq_nil_of_le (by rw [hl,h.2];simp at hi;subst hi;omega)
       exact ⟨[],rfl,by simp,by rw [this];exact Stands.nil⟩
     | succ k ih=>
       intro i hi
       obtain ⟨ys,h1,h2,h3⟩:=ih (i+1) (by omega)
       have h4:=hf i (by omega)
       have hlt:i < xs.length:=by omega
       rw [List.getElem?_eq_getElem hlt] at h4
       obtain ⟨qs,h5,h6⟩:=trod_typed m d e _ _ h4 h.1
       refine ⟨qs::ys,by simp [h1],by simpa using ⟨h5,h2⟩,?_⟩
       rw [List.flatten_cons]
       have e':cs.drop (i*P.cellsOf e)=(cs.drop (i*P.cellsOf e)).take (P.cellsOf e)++cs.drop ((i+1)*P.cellsOf e):=by
        rw [Nat.succ_mul,← List.drop_drop,List.take_append_drop]
       rw [e']
       exact h6.append h3
    obtain ⟨ys,h1,h2,h3⟩:=key n 0 (by omega)
    exact ⟨_,⟨ys,h1,h2,rfl⟩,by simpa using h3⟩
   ·cases h
end
end Go.Kz

namespace Go.Kz
open Go.RowKit
section
variable {H:Type} {enc:TypeId×Value→H} {P:Program} {w:World} {base:Nat} {sp:Nat→Bool} {held:Bool}
theorem arg_typed {n:Nat} {t:TypeId} {v:Value} {d:DataW H} {ms:List MemPlace} (hp:pureT P n t=true) (hv:Value.okWide P w .any base t v) (h:DataW.Trod enc P w 0 sp held t v d ms) :
  ∃ qs,Typed P n t qs∧VR (.start w) v (asPD P t qs):=by
 obtain ⟨fuel,h⟩:=h
 obtain ⟨qs,h1,h2⟩:=trod_typed fuel n t _ _ h hp
 refine ⟨qs,h1,?_⟩
 have hlen:=Typed.length n t qs hp h1
 cases n with
 | zero=>cases hp
 | succ n=>
   have cell:pagg P t=some false→(∀ cs,v≠.agg cs)→VR (.start w) v (asPD P t qs):=fun ha hna=>by
    have hc:v.cells=#[v]:=by
     cases v <;> first | rfl | exact absurd rfl (hna _)
    rw [hc] at h2
    obtain ⟨hl,hr⟩:=h2.vrs
    match qs,hl with
    | [q],_=>
      have:=hr 0 v q rfl rfl
      simpa only [asPD,ha,List.headD_cons] using this
   have row:pagg P t=some true→(∃ cs,v=.agg cs)→VR (.start w) v (asPD P t qs):=fun ha ⟨cs,e⟩=>by
    subst e
    have:=h2.agg
    simpa only [asPD,ha,Value.cells] using this
   unfold pureT at hp
   unfold Value.okWide at hv
   split at hp <;> rename_i hu
   ·refine cell (by simp only [pagg,hu]) (fun cs e=>?_)
    subst e
    simp [hu,Cell.okWide,Cell.ok] at hv
   ·refine cell (by simp only [pagg,hu]) (fun cs e=>?_)
    subst e
    simp [hu,Cell.okWide,Cell.ok] at hv
   ·refine cell (by simp only [pagg,hu]) (fun cs e=>?_)
    subst e
    simp [hu,Cell.okWide,Cell.ok] at hv
   ·refine cell (by simp only [pagg,hu]) (fun cs e=>?_)
    subst e
    simp [hu,Cell.okWide,Cell.ok] at hv
   ·rw [hu] at hv
    obtain ⟨cs,e,_⟩:=hv
    exact row (by simp only [pagg,hu]) ⟨cs,e⟩
   ·rw [hu] at hv
    obtain ⟨cs,e,_⟩:=hv
    exact row (by simp only [pagg,hu]) ⟨cs,e⟩
   ·cases hp
end
section
variable {P:Program}
theorem typed_int {d:Nat} {t:TypeId} {k:IntKind} {qs:List PD} (hu:P.underlying t=some (.int k)) (h:Typed P (d+1) t qs):∃ n,qs=[.int k n]∧(Lit.int k n).wf=true:=by
 simpa only [Typed,hu] using h
theorem typed_bool {d:Nat} {t:TypeId} {qs:List PD} (hu:P.underlying t=some .bool) (h:Typed P (d+1) t qs):∃ b,qs=[.bool b]:=by
 simpa only [Typed,hu] using h
theorem typed_struct {d:Nat} {t:TypeId} {fs:Array Field} {qs:List PD} (hu:P.underlying t=some (.struct fs)) (h:Typed P (d+1) t qs):TypedF (Typed P d) fs.toList qs:=by
 simpa only [Typed,hu] using h
theorem typed_list {α:Type} {em:Em α} {R:α→Prop} {d:Nat} {t e:TypeId} {k:Nat} {qs:List PD} (hu:P.underlying t=some (.slice e)) (hk:P.cellsOf e=k) (hf:∀ x,Typed P d e x→∃ y,asPD P e x=em.emb y∧R y) (h:Typed P (d+1) t qs) :
  ∃ ys,qs=[(em.list k).emb ys]∧ys.length≤maxLen∧∀ y∈ys,R y:=by
 simp only [Typed,hu] at h
 obtain ⟨xs,h1,h2,rfl⟩:=h
 have key:∀ xs:List (List PD),(∀ x∈xs,Typed P d e x)→∃ ys:List α,ys.length=xs.length∧xs.map (asPD P e)=ys.map em.emb∧∀ y∈ys,R y:=by
  intro xs
  induction xs with
  | nil=>intro _;exact ⟨[],rfl,rfl,by simp⟩
  | cons x xs ih=>
    intro hx
    obtain ⟨ys,h3,h4,h5⟩:=ih (fun z hz=>hx z (by simp [hz]))
    obtain ⟨y,h6,h7⟩:=hf x (hx x (by simp))
    exact ⟨y::ys,by simp [h3],by simp [h4,h6],by simpa using ⟨h7,h5⟩⟩
 obtain ⟨ys,h3,h4,h5⟩:=key xs h2
 refine ⟨ys,?_,by omega,h5⟩
 rw [emb_list,h4,hk]
 have:sz k xs=sz k ys:=by simp only [sz,h3]
 rw [this]
theorem asPD_agg {t:TypeId} {qs:List PD} (ha:pagg P t=some true):asPD P t qs=.agg qs:=by simp only [asPD,ha]
theorem typedF_cons {T:TypeId→List PD→Prop} {f:Field} {fs:List Field} {ps:List PD} (h:TypedF T (f::fs) ps):∃ a b,ps=a++b∧T f.type a∧TypedF T fs b:=h
theorem typedF_nil {T:TypeId→List PD→Prop} {ps:List PD} (h:TypedF T [] ps):ps=[]:=h
theorem wf_u8 {z:Int} (hz:(Lit.int .u8 z).wf=true):0≤z∧z≤255:=by
 simp only [Lit.wf,IntKind.min,IntKind.max,IntKind.signed,IntKind.bits] at hz
 simp at hz
 omega
theorem wf_u16 {z:Int} (hz:(Lit.int .u16 z).wf=true):0≤z∧z≤65535:=by
 simp only [Lit.wf,IntKind.min,IntKind.max,IntKind.signed,IntKind.bits] at hz
 simp at hz
 omega
theorem vrs_nil {c:Cx}:VRs c [] []:=⟨rfl,by simp⟩
theorem vrs_cons {c:Cx} {v:Value} {p:PD} {vs:List Value} {ps:List PD} (h:VR c v p) (hs:VRs c vs ps):VRs c (v::vs) (p::ps):=
 ⟨by simp [hs.1],fun i u d hu hd=>by
  cases i with
  | zero=>simp at hu hd;subst hu hd;exact h
  | succ i=>exact hs.2 i u d (by simpa using hu) (by simpa using hd)⟩
end
end Go.Kz
