/-
  Part P4 of the way: an interpreter over pure data, its soundness, walks through functions.
-/
import Derived.Test.YtefkonhamghgfaaGreatDoorP3
import Derived.Test.YtefkonhamghgfaaGreatDoorProg
import Derived.KernelRfl
import Derived.Test.YtefkonhamghgfaaGreatDoorP2
import Derived.Handed
import Derived.SizedLaws
set_option linter.all false

namespace Go.Kz
section
variable {α:Type} {l r:List α} {x y:α} {n:Nat}
@[simp] theorem get_concat:(l++[x])[l.length]?=some x:=List.getElem?_concat_length
@[simp] theorem set_concat:(l++[x]).set l.length y=l++[y]:=by
  rw [List.set_append_right _ _ (Nat.le_refl _),Nat.sub_self]
  rfl
@[simp] theorem get_concat2:(l++[x,y])[l.length]?=some x:=by
  rw [List.getElem?_append_right (Nat.le_refl _),Nat.sub_self]
  rfl
@[simp] theorem get_concat3:(l++[x,y])[l.length+1]?=some y:=by
  rw [List.getElem?_append_right (by omega),Nat.add_sub_cancel_left]
  rfl
@[simp] theorem set_concat2 {z:α}:(l++[x,y]).set l.length z=l++[z,y]:=by
  rw [List.set_append_right _ _ (Nat.le_refl _),Nat.sub_self]
  rfl
@[simp] theorem set_concat3 {z:α}:(l++[x,y]).set (l.length+1) z=l++[x,z]:=by
  rw [List.set_append_right _ _ (by omega),Nat.add_sub_cancel_left]
  rfl
end
end Go.Kz

namespace Go.Kz
@[simp] theorem sz_sz {α:Type} {k:Nat} {xs:List α}:sz (sz k xs) xs=sz k xs:=by
  unfold sz
  split <;> rfl
def RowAt (σ:List SObj) (tok:Tok) (e:TypeId) (k n:Nat):Prop:=(n=0∧tok=.full)∨(0 < n∧∃ id,tok=.own id∧σ[id]?=some (.own e k n))
def Tok.not (tok:Tok) (id:Nat):Prop:=tok≠.own id
theorem RowAt.keep {σ σ':List SObj} {tok:Tok} {e:TypeId} {k n:Nat} (h:RowAt σ tok e k n) (hk:∀ id o,tok=.own id→σ[id]?=some o→σ'[id]?=some o):RowAt σ' tok e k n:=by
 rcases h with h | ⟨h0,id,h1,h2⟩
 ·exact .inl h
 ·exact .inr ⟨h0,id,h1,hk id _ h1 h2⟩
theorem RowAt.more {σ τ:List SObj} {tok:Tok} {e:TypeId} {k n:Nat} (h:RowAt σ tok e k n):RowAt (σ++τ) tok e k n:=
 h.keep fun id o _ h=>by
  rw [List.getElem?_append_left (List.getElem?_eq_some_iff.1 h).1]
  exact h
theorem pappend_row {P:Program} {σ:List SObj} {t e:TypeId} {k b s:Nat} {xs:List PD} {p:PD} {tk tok:Tok} (hu:P.underlying t=some (.slice e)) (hi:pelem P e=some (k,b)) (hs:xs=[]∨s=k) (hr:RowAt σ tok e k xs.length)
  (hm:xs.length+1≤100000000000000) (hb:(xs.length+1)*b≤140737488355328) :
  ∃ tok' σ',pappend P 0 σ t (.slice s xs tok) (.slice k [p] tk)=some (.slice k (xs++[p]) tok',σ')∧RowAt σ' tok' e k (xs.length+1)∧(∀ id o,tok≠.own id→σ[id]?=some o→σ'[id]?=some o)∧(∀ id,tok'=.own id→tok=.own id∨id=σ.length):=by
 unfold pelem at hi
 split at hi
 ·rename_i i h1
  split at hi
  ·rename_i z h2
   split at hi
   ·rename_i h3
    simp only [Option.some.injEq,Prod.mk.injEq] at hi
    obtain ⟨rfl,rfl⟩:=hi
    have hs':xs.length=0∨s=i.size:=hs.imp (fun h=>by rw [h];rfl) (fun h=>h)
    have e1:[p].length=1:=rfl
    have hmm:xs.length+1≤maxLen:=by simp only [maxLen];omega
    rcases hr with ⟨hn,rfl⟩ | ⟨hpos,id,rfl,hid⟩
    ·refine ⟨.own σ.length,σ++[.own e i.size (xs.length+1)],?_,.inr ⟨by omega,_,rfl,List.getElem?_concat_length⟩,fun id o _ h=>?_,fun id h=>?_⟩
     ·simp only [pappend,hu,h1,h2,e1,hs',h3.2,h3.1,hmm,hb,or_true,and_self,if_true,Nat.one_ne_zero,if_false]
     ·rw [List.getElem?_append_left (List.getElem?_eq_some_iff.1 h).1];exact h
     ·right;simpa using h.symm
    ·have hlt:=(List.getElem?_eq_some_iff.1 hid).1
     have hsz:s=i.size:=hs'.resolve_left (by omega)
     refine ⟨.own id,σ.set id (.own e i.size (xs.length+1)),?_,.inr ⟨by omega,id,rfl,by rw [List.getElem?_set_self hlt]⟩,fun j o hj h=>?_,fun j h=>.inl h⟩
     ·simp only [pappend,hu,h1,h2,e1,h3.2,h3.1,hmm,hb,or_true,and_self,if_true,Nat.one_ne_zero,if_false,hsz,Nat.zero_le,hid]
     ·have hne:id≠j:=fun e=>hj (by rw [e])
      rw [List.getElem?_set_ne hne];exact h
   ·cases hi
  ·cases hi
 ·cases hi
end Go.Kz

namespace Go.Kz
def ownOp:Op→Bool
 | .box ..=>true
 | .call { callee:=.builtin .append,.. }=>true
 | .call { callee:=.builtin .copy,.. }=>true
 | _=>false
def mixOwn (ops:Array Oper):Bool:=masksK ops.toList [] fun ms=>
 (List.range ops.size).all fun i=>!isAt ownOp ops.toList i||noLoose ops.toList ms i
section
variable {P:Program} {E:PExt} {fl:Nat} {fr:List PD} {σ:List SObj}
theorem pcallP_E (hU:Uni E) {tg:FuncId ⊕ Nat} {args:List PD} {x:PD×List SObj} (h:pcallP E fl tg args σ=some x):pcallE E fl tg args σ=some x:=by
 cases tg with
 | inr id=>cases h
 | inl f=>
   simp only [pcallP] at h
   split at h
   ·rename_i g hg
    split at h
    ·rename_i p hp
     simp only [Option.some.injEq] at h;subst h
     simp only [pcallE,hg]
     exact hU f g args p hg hp fl σ
    ·cases h
   ·cases h
theorem pstep_PE (hU:Uni E) {op:Op} {x:PD×List SObj} (h:pstep P (pcallP E) fl fr σ op=some x):pstep P (pcallE E) fl fr σ op=some x:=by
 unfold pstep at *
 cases hc:pcallee fr op with
 | some q=>
   obtain ⟨tg,args⟩:=q
   simp only [hc] at h ⊢
   exact pcallP_E hU h
 | none=>
   simp only [hc] at h ⊢
   exact h
theorem pdseq_mix (hU:Uni E) {ops:Array Oper}:∀ (l:List Oper) (i:Nat) (fr:List PD) (σ:List SObj) (x:List PD×List SObj),ops.toList.drop i=l→mixOwn ops=true →
  pseq P (pcallP E) fl ops l fr σ=some x→pdseq P (pcallE E) fl ops (flags ops i l) fr σ=some x
 | [],_,_,_,_,_,_,h=>h
 | o::l,i,fr,σ,x,hd,hm,h=>by
   have ho:ops.toList[i]?=some o:=by
    have:=congrArg List.head? hd
    rw [List.head?_drop] at this
    simpa using this
   have hd':ops.toList.drop (i+1)=l:=by rw [← List.drop_drop,hd];rfl
   have hi:i < ops.size:=by
    have:=(List.getElem?_eq_some_iff.1 ho).1
    simpa using this
   have hown:ownOp o.op=false∨freeAt ops i=true:=by
    have hm':=hm
    rw [mixOwn,masksK_eq] at hm'
    simp only [List.all_eq_true,List.mem_range,Bool.or_eq_true,Bool.not_eq_true'] at hm'
    have:=hm' i hi
    rw [isAt,ho] at this
    simpa [freeAt] using this
   simp only [pseq] at h
   simp only [flags,pdseq]
   split at h
   ·rename_i hw
    rw [if_pos hw]
    split at h
    ·rename_i p σ1 hp
     cases hf:(!shapeMove o.op||freeAt ops i) with
     | true=>
       simp only [pstep_PE hU hp]
       exact pdseq_mix hU l (i+1) _ _ _ hd' hm h
     | false=>
       simp only [Bool.or_eq_false_iff,Bool.not_eq_false'] at hf
       obtain ⟨hf1,hf2⟩:=hf
       rw [hf2] at hown
       have hop:ownOp o.op=false:=by simpa using hown
       obtain ⟨e1,e2⟩:=pstep_pure (P:=P) hU (fl':=max fl σ.length) (op:=o.op) (by
        cases hq:o.op with
        | box t x=>rw [hq] at hop;cases hop
        | call c=>
          obtain ⟨callee,args,ts⟩:=c
          cases callee with
          | builtin b=>cases b <;> first | rfl | (rw [hq] at hop;cases hop)
          | value f=>rfl
          | invoke r m=>rfl
        | _=>rfl) hf1 hp
       simp only at e2
       subst e2
       simp only [e1,List.drop_length,List.append_nil]
       exact pdseq_mix hU l (i+1) _ _ _ hd' hm h
    ·cases h
   ·rename_i hw
    rw [if_neg hw]
    exact pdseq_mix hU l (i+1) _ _ _ hd' hm h
theorem WL.drawM1 {rd:Option Nat} {ms:List Nat} {Q:PO→Prop} {ops:Array Oper} {id:Nat} (hU:Uni E) (_hd:noDyn ops=true) (hs:(fastOk ops&&mixOwn ops)=true) (h:SQ P (pcallP E) fl ops ops.toList fr σ (fun fr' σ'=>Q ⟨.normal,fr',ms,σ'⟩)) :
  Wp P E rd (.region id ops true) fl fr ms σ Q:=by
 simp only [Bool.and_eq_true,fastOk_eq] at hs
 obtain ⟨fr',σ',h1,h2⟩:=h.ex
 exact .draw hs.1 (pdseq_mix hU _ 0 _ _ _ (by simp) hs.2 h1) h2
theorem WL.drawM {rd:Option Nat} {ms:List Nat} {Q:PO→Prop} {ops:Array Oper} {id:Nat} {y:Code} (hU:Uni E) (_hd:noDyn ops=true) (hs:(fastOk ops&&mixOwn ops)=true) (h:SQ P (pcallP E) fl ops ops.toList fr σ (fun fr' σ'=>Wp P E rd y fl fr' ms σ' Q)) :
  Wp P E rd (.seq (.region id ops true) y) fl fr ms σ Q:=by
 simp only [Bool.and_eq_true,fastOk_eq] at hs
 obtain ⟨fr',σ',h1,h2⟩:=h.ex
 exact .seq (.draw hs.1 (pdseq_mix hU _ 0 _ _ _ (by simp) hs.2 h1) (.normal h2))
end
end Go.Kz

namespace Go.Kz
end Go.Kz

namespace Go.Kz
def allocSure (ops:Array Oper):Bool:=ops.toList.all fun o=>!shapeAlloc o.op||o.guard.isNone
def fastA (ops:Array Oper):Bool:=masksK ops.toList [] fun ms=>
 regOk ops ms&&(List.range ops.size).all fun k=>!isAt shapeStore ops.toList k||(List.range ops.size).all fun i=>!isAt shapeLoad ops.toList i||!loose ms i k
section
variable {P:Program} {E:PExt} {fl:Nat} {fr:List PD} {σ:List SObj}
theorem pstep_pure2 (hU:Uni E) {fl':Nat} {σ2:List SObj} {op:Op} {x:PD×List SObj} (hop:(match op with
 | .box ..=>false
 | .call { callee:=.builtin .append,.. }=>false
 | .call { callee:=.builtin .copy,.. }=>false
 | _=>true)=true) (hm:shapeMove op=true) (h:pstep P (pcallP E) fl fr σ op=some x):pstep P (pcallE E) fl' fr σ2 op=some (x.1,σ2)∧x.2=σ:=by
 refine ⟨?_,(pstep_pure hU (fl':=0) hop hm h).2⟩
 unfold pstep at *
 cases hc:pcallee fr op with
 | some q=>
   obtain ⟨tg,args⟩:=q
   simp only [hc] at h ⊢
   cases tg with
   | inr id=>cases h
   | inl f=>
     simp only [pcallP] at h
     split at h
     ·rename_i g hg
      split at h
      ·rename_i p hp
       simp only [Option.some.injEq] at h;subst h
       simp only [pcallE,hg]
       exact hU f g args p hg hp fl' σ2
      ·cases h
     ·cases h
 | none=>
   simp only [hc] at h ⊢
   exfalso
   cases op with
   | box t x=>cases hop
   | call c=>
     obtain ⟨callee,args,ts⟩:=c
     cases callee with
     | value f=>simp [pop,pval,pmem] at h
     | invoke r m=>simp [shapeMove] at hm
     | builtin b=>cases b <;> first | (simp [shapeMove] at hm;done) | cases hop
   | _=>simp [shapeMove] at hm
theorem pload_more {t:TypeId} {a p:PD} (hs:List SObj) (h:pload P σ t a=some p):pload P (σ++hs) t a=some p:=
 pload_congr h fun id e=>by
  rw [List.getElem?_append_left (pload_lt h e)]
theorem pstore_more {t:TypeId} {a p:PD} {σ':List SObj} (hs:List SObj) (h:pstore P fl σ t a p=some σ'):pstore P fl (σ++hs) t a p=some (σ'++hs):=by
 unfold pstore at h ⊢
 split at h
 ·rename_i id off
  by_cases h1:fl≤id
  ·rw [if_pos h1] at h ⊢
   cases hq:σ[id]? with
   | none=>simp [hq] at h
   | some o=>
     have hlt:id < σ.length:=(List.getElem?_eq_some_iff.1 hq).1
     rw [List.getElem?_append_left hlt,hq]
     rw [hq] at h
     cases o with
     | box q=>
       cases hz:psize P t with
       | none=>rw [hz] at h;cases h
       | some n=>
         rw [hz] at h
         simp only at h ⊢
         split at h
         ·rename_i hc
          rw [if_pos hc]
          cases hset:q.setCells off p.cells with
          | none=>rw [hset] at h;cases h
          | some q'=>
            rw [hset] at h
            simp only [Option.some.injEq] at h ⊢
            subst h
            rw [List.set_append_left _ _ hlt]
         ·cases h
     | _=>cases h
  ·rw [if_neg h1] at h;cases h
 ·rename_i id ver off
  by_cases h1:fl≤id
  ·rw [if_pos h1] at h ⊢
   cases hq:σ[id]? with
   | none=>simp [hq] at h
   | some o=>
     have hlt:id < σ.length:=(List.getElem?_eq_some_iff.1 hq).1
     rw [List.getElem?_append_left hlt,hq]
     rw [hq] at h
     cases o with
     | row e sz ver' cs=>
       cases hz:psize P t with
       | none=>rw [hz] at h;cases h
       | some n=>
         rw [hz] at h
         simp only at h ⊢
         split at h
         ·rename_i hc
          rw [if_pos hc]
          simp only [Option.some.injEq] at h ⊢
          subst h
          rw [List.set_append_left _ _ hlt]
         ·cases h
     | _=>cases h
  ·rw [if_neg h1] at h;cases h
 ·cases h
theorem pdraw_sure (hU:Uni E) {n:Nat} {ops:Array Oper} (ms:List Nat) (hsh:∀ (i:Nat) o,ops[i]?=some o→(shapeA o.op||shapeLoad o.op||shapeAlloc o.op||shapeSlice o.op||shapeW o.op)=true) (hno:noOwn ops=true) (hsu:allocSure ops=true) :
  ∀ (l:List Oper) (i:Nat) (fr:List PD) (σ:List SObj) (x:List PD×List SObj),ops.toList.drop i=l→pseq P (pcallP E) fl ops l fr σ=some x →
    ∃ hs tr,phoist P l=some hs∧pdrawOps P (pcall P E n) fl ops ms i σ.length l fr (σ++hs)=some (tr,x.1,x.2)
 | [],_,fr,σ,x,_,h=>by
   simp only [pseq,Option.some.injEq] at h
   subst h
   exact ⟨[],[],rfl,by simp [pdrawOps]⟩
 | o::l,i,fr,σ,x,hd,h=>by
   have ho:ops[i]?=some o:=by
    have:=congrArg List.head? hd
    rw [List.head?_drop] at this
    simpa using this
   have hd':ops.toList.drop (i+1)=l:=by rw [← List.drop_drop,hd];rfl
   have hmem:o∈ops.toList:=Array.mem_toList_iff.2 (Array.mem_of_getElem? ho)
   have hshape:=hsh i o ho
   have hown:=List.all_eq_true.1 hno o hmem
   have hsure:=List.all_eq_true.1 hsu o hmem
   simp only [pseq] at h
   by_cases hal:shapeAlloc o.op=true
   ·have hg:o.guard=none:=by
     rw [hal] at hsure
     simpa using hsure
    have hw:Region.wanted o (pyield ops fr)=true:=by simp [Region.wanted,hg]
    rw [if_pos hw] at h
    obtain ⟨t,ht⟩:∃ t,o.op=.alloc t:=by
     unfold shapeAlloc at hal
     split at hal
     ·rename_i t e;exact ⟨t,e⟩
     ·cases hal
    rw [ht] at h
    have hst:pstep P (pcallP E) fl fr σ (.alloc t)=(match pzero P t with | some p=>if p.cells.all PD.plain then some (.ptr σ.length 0,σ++[.box (boxed t p)]) else none | none=>none):=rfl
    rw [hst] at h
    cases hz:pzero P t with
    | none=>rw [hz] at h;cases h
    | some p0=>
      rw [hz] at h
      simp only at h
      by_cases hp:p0.cells.all PD.plain=true
      ·rw [if_pos hp] at h
       simp only at h
       obtain ⟨hs,tr,e1,e2⟩:=pdraw_sure hU (n:=n) ms hsh hno hsu l (i+1) _ _ x hd' h
       refine ⟨.box (boxed t p0)::hs,⟨fr,σ++.box (boxed t p0)::hs,.ptr σ.length 0,pfoot fr o.op⟩::tr,?_,?_⟩
       ·unfold phoist
        rw [ht]
        simp only [hz,e1,hp,if_true]
       ·simp only [pdrawOps,hw,if_true,hal]
        have hA:shapeA o.op=false:=by rw [ht];rfl
        have hp':pdop P (pcall P E n) fl (noLoose ops.toList ms i) σ.length fr (σ++.box (boxed t p0)::hs) o.op=some (.ptr σ.length 0,σ++.box (boxed t p0)::hs):=by
         unfold pdop
         rw [hA,hal]
         simp
        rw [hp']
        simp only
        rw [List.length_append,List.length_singleton,List.append_assoc,List.singleton_append] at e2
        rw [e2]
      ·rw [if_neg hp] at h;cases h
   ·simp only [Bool.not_eq_true] at hal
    have hho:∀ hs,phoist P l=some hs→phoist P (o::l)=some hs:=fun hs e=>by
     unfold phoist
     split
     ·rename_i t ht;rw [ht] at hal;cases hal
     ·exact e
    by_cases hw:Region.wanted o (pyield ops fr)=true
    ·rw [if_pos hw] at h
     cases hp:pstep P (pcallP E) fl fr σ o.op with
     | none=>rw [hp] at h;cases h
     | some q=>
       obtain ⟨p,σ1⟩:=q
       rw [hp] at h
       simp only at h
       obtain ⟨hs,tr,e1,e2⟩:=pdraw_sure hU (n:=n) ms hsh hno hsu l (i+1) _ _ x hd' h
       have key:pdop P (pcall P E n) fl (noLoose ops.toList ms i) σ.length fr (σ++hs) o.op=some (p,σ1++hs)∧σ1.length=σ.length:=by
        have hpd:=pdop_pstep (P:=P) (call:=pcall P E n) (fl:=fl) (k:=σ.length) (free:=noLoose ops.toList ms i) (fr:=fr) (σ:=σ++hs) hshape hal
        rw [hpd]
        by_cases hm:shapeMove o.op=true
        ·obtain ⟨_,e3⟩:=pstep_pure2 (P:=P) hU (fl':=fl) (σ2:=σ++hs) hown hm hp
         simp only at e3
         subst e3
         have e4:=fun f=>pstep_up (n:=n) (pstep_pure2 (P:=P) hU (fl':=f) (σ2:=σ1++hs) hown hm hp).1
         simp only at e4
         cases (!shapeMove o.op||noLoose ops.toList ms i) with
         | true=>exact ⟨e4 fl,rfl⟩
         | false=>
           simp only
           rw [e4]
           simp
        ·simp only [Bool.not_eq_true] at hm
         have hm2:=hm
         rw [hm]
         simp only [Bool.not_false,Bool.true_or]
         rw [pstep_nocall (call':=pcallP E) hm]
         unfold pstep pop at hp ⊢
         have hcal:pcallee fr o.op=none:=by
          cases hop:o.op with
          | call c=>
            obtain ⟨callee,args,ts⟩:=c
            rw [hop] at hm2
            cases callee with
            | value f=>simp [shapeMove] at hm2
            | invoke r m=>rfl
            | builtin b=>rfl
          | _=>rfl
         rw [hcal] at hp ⊢
         simp only at hp ⊢
         cases hv:pval P fr o.op with
         | some q=>
           rw [hv] at hp
           simp only [Option.some.injEq,Prod.mk.injEq] at hp ⊢
           obtain ⟨rfl,rfl⟩:=hp
           exact ⟨⟨rfl,rfl⟩,rfl⟩
         | none=>
           rw [hv] at hp
           simp only at hp ⊢
           have hsh2:shapeLoad o.op=true∨shapeSlice o.op=true∨shapeStore o.op=true∨shapeA o.op=true:=by
            simp only [hal,shapeW,hm2,Bool.or_false,Bool.or_eq_true] at hshape
            rcases hshape with ((h | h) | h) | h
            ·exact .inr (.inr (.inr h))
            ·exact .inl h
            ·exact .inr (.inl h)
            ·exact .inr (.inr (.inl h))
           rcases hsh2 with hl | hl | hl | hl
           ·cases hop:o.op with
            | load t y=>
              rw [hop] at hp
              simp only [pmem] at hp ⊢
              cases he:peval fr y with
              | none=>rw [he] at hp;cases hp
              | some a=>
                rw [he] at hp
                simp only at hp ⊢
                cases hlo:pload P σ t a with
                | none=>rw [hlo] at hp;cases hp
                | some q=>
                  rw [hlo] at hp
                  rw [pload_more hs hlo]
                  simp only [Option.some.injEq,Prod.mk.injEq] at hp ⊢
                  obtain ⟨rfl,rfl⟩:=hp
                  exact ⟨⟨rfl,rfl⟩,rfl⟩
            | convert s d y=>
              rw [hop] at hp
              simp only [pmem] at hp ⊢
              split at hp
              ·rename_i htc
               rw [if_pos htc]
               split at hp
               ·rename_i ad had
                split at hp
                ·simp only [Option.some.injEq,Prod.mk.injEq] at hp ⊢
                 exact ⟨⟨hp.1,by rw [hp.2]⟩,by rw [hp.2]⟩
                ·split at hp
                 ·rename_i q hq
                  obtain ⟨xs,hxs⟩:=prowStr_row hq
                  rw [prowStr_congr (σ':=σ++hs) hq (fun id hid=>List.getElem?_append_left (prow_lt hxs hid))]
                  simp only [Option.some.injEq,Prod.mk.injEq] at hp ⊢
                  exact ⟨⟨hp.1,by rw [hp.2]⟩,by rw [hp.2]⟩
                 ·cases hp
               ·cases hp
              ·cases hp
            | _=>rw [hop] at hl;simp [shapeLoad] at hl
           ·cases hop:o.op with
            | buildSlice t len parts=>
              rw [hop] at hp
              simp only [pmem] at hp ⊢
              cases hps:pevalParts fr parts.toList with
              | none=>rw [hps] at hp;cases hp
              | some ps=>
                rw [hps] at hp
                simp only at hp ⊢
                cases hq:pnewSlice P t len (List.map (fun q=>(q.fst,q.snd.strip)) ps) with
                | none=>rw [hq] at hp;cases hp
                | some q=>
                  rw [hq] at hp
                  simp only [Option.some.injEq,Prod.mk.injEq] at hp ⊢
                  obtain ⟨rfl,rfl⟩:=hp
                  exact ⟨⟨rfl,rfl⟩,rfl⟩
            | _=>rw [hop] at hl;simp [shapeSlice] at hl
           ·cases hop:o.op with
            | store t y z=>
              rw [hop] at hp
              simp only [pmem] at hp ⊢
              cases he:peval fr y with
              | none=>rw [he] at hp;cases hp
              | some a=>
                cases hez:peval fr z with
                | none=>rw [he,hez] at hp;cases hp
                | some b=>
                  rw [he,hez] at hp
                  simp only at hp ⊢
                  cases hst:pstore P fl σ t a b with
                  | none=>rw [hst] at hp;cases hp
                  | some q=>
                    rw [hst] at hp
                    rw [pstore_more hs hst]
                    simp only [Option.some.injEq,Prod.mk.injEq] at hp ⊢
                    obtain ⟨rfl,rfl⟩:=hp
                    refine ⟨⟨rfl,rfl⟩,?_⟩
                    unfold pstore at hst
                    split at hst
                    ·split at hst
                     ·split at hst
                      ·split at hst
                       ·split at hst
                        ·simp only [Option.some.injEq] at hst;subst hst;simp
                        ·cases hst
                       ·cases hst
                      ·cases hst
                     ·cases hst
                    ·split at hst
                     ·split at hst
                      ·split at hst
                       ·simp only [Option.some.injEq] at hst;subst hst;simp
                       ·cases hst
                      ·cases hst
                     ·cases hst
                    ·cases hst
            | _=>rw [hop] at hl;simp [shapeStore] at hl
           ·rw [shapeA_pmem hl] at hp;cases hp
       refine ⟨hs,⟨fr,σ++hs,p,pfoot fr o.op⟩::tr,hho hs e1,?_⟩
       simp only [pdrawOps,hw,if_true,hal,Bool.false_eq_true,if_false]
       rw [key.1]
       simp only
       rw [key.2] at e2
       rw [e2]
    ·simp only [Bool.not_eq_true] at hw
     rw [hw] at h
     simp only [Bool.false_eq_true,if_false] at h
     obtain ⟨hs,tr,e1,e2⟩:=pdraw_sure hU (n:=n) ms hsh hno hsu l (i+1) _ _ x hd' h
     refine ⟨hs,⟨fr,σ++hs,.tup [],none⟩::tr,hho hs e1,?_⟩
     simp only [pdrawOps,hw,Bool.false_eq_true,if_false,hal]
     rw [e2]
theorem pdraw_alloc (hU:Uni E) {n:Nat} {ops:Array Oper} {x:List PD×List SObj} (hs:(fastA ops&&noOwn ops&&allocSure ops)=true) (h:pseq P (pcallP E) fl ops ops.toList fr σ=some x):pdraw P (pcall P E n) fl ops fr σ=some x:=by
 simp only [Bool.and_eq_true,fastA] at hs
 obtain ⟨⟨h1,h2⟩,h3⟩:=hs
 rw [masksK_eq] at h1
 simp only [Bool.and_eq_true] at h1
 obtain ⟨hreg,hfeet⟩:=h1
 have hr:=regOk_spec hreg
 obtain ⟨hs,tr,e1,e2⟩:=pdraw_sure (n:=n) hU (masks ops.toList []) (fun i o ho=>hr.shape i o ho) h2 h3 ops.toList 0 fr σ x (by simp) h
 unfold pdraw
 simp only [hreg,if_true,e1,e2]
 have hfo:footsOk ops.toList (masks ops.toList []) tr=true:=by
  simp only [footsOk,List.all_eq_true,List.mem_range]
  simp only [List.all_eq_true,List.mem_range] at hfeet
  intro k hk
  have h1:=hfeet k (by simpa using hk)
  cases hs:isAt shapeStore ops.toList k with
  | false=>simp
  | true=>
    rw [hs] at h1
    simp only [Bool.not_true,Bool.false_or,List.all_eq_true,List.mem_range] at h1 ⊢
    intro i hi
    have h2:=h1 i (by simpa using hi)
    rw [h2]
    simp
 rw [if_pos hfo]
theorem WL.drawA1 {rd:Option Nat} {ms:List Nat} {Q:PO→Prop} {ops:Array Oper} {id:Nat} (hU:Uni E) (_hd:noDyn ops=true) (hs:(fastA ops&&noOwn ops&&allocSure ops)=true) (h:SQ P (pcallP E) fl ops ops.toList fr σ (fun fr' σ'=>Q ⟨.normal,fr',ms,σ'⟩)) :
  Wp P E rd (.region id ops true) fl fr ms σ Q:=by
 obtain ⟨fr',σ',h1,h2⟩:=h.ex
 exact ⟨_,.draw (N:=0) (fun n _=>pdraw_alloc hU hs h1),h2⟩
theorem WL.drawA {rd:Option Nat} {ms:List Nat} {Q:PO→Prop} {ops:Array Oper} {id:Nat} {y:Code} (hU:Uni E) (_hd:noDyn ops=true) (hs:(fastA ops&&noOwn ops&&allocSure ops)=true) (h:SQ P (pcallP E) fl ops ops.toList fr σ (fun fr' σ'=>Wp P E rd y fl fr' ms σ' Q)) :
  Wp P E rd (.seq (.region id ops true) y) fl fr ms σ Q:=by
 obtain ⟨fr',σ',h1,h2⟩:=h.ex
 exact .seq ⟨_,.draw (N:=0) (fun n _=>pdraw_alloc hU hs h1),.normal h2⟩
end
end Go.Kz

namespace Go.Kz
open Go
abbrev BEnv:=Nat→Option Nat
def psrc:Op→Option Tmp
 | .fieldAddr _ (.tmp u) _=>some u
 | .nilCheck (.tmp u)=>some u
 | .move (.tmp u)=>some u
 | _=>none
def BEnv.next (ρ:BEnv) (o:Oper):BEnv:=match o.dst with
 | none=>ρ
 | some d=>fun t=>if d=t then (match psrc o.op with
   | some u=>ρ u
   | none=>none) else ρ t
def BEnv.foot (ρ:BEnv):Op→Option Nat
 | .load _ (.tmp t)=>ρ t
 | .store _ (.tmp t) _=>ρ t
 | _=>none
def BEnv.ok (ρ:BEnv) (fr:List PD):Prop:=∀ t id id',ρ t=some id→ptrId (fr.getD t (.tup []))=some id'→id'=id
def BEnv.of:List (Nat×Nat)→BEnv
 | []=>fun _=>none
 | x::l=>fun t=>if x.1=t then some x.2 else BEnv.of l t
def BEnv.at (fr:List PD):List (Nat×Nat)→Prop
 | []=>True
 | x::l=>(∃ off,lk fr x.1=some (.ptr x.2 off))∧BEnv.at fr l
section
variable {P:Program} {call:PCall} {fl:Nat} {ops:Array Oper}
end
section
variable {P:Program} {E:PExt} {fl:Nat} {fr:List PD} {σ:List SObj}
end
end Go.Kz

namespace Go.Kz
open Go
def isText (P:Program) (u:TypeId):Bool:=match P.underlying u with
 | some .string=>true
 | _=>false
section
variable {P:Program} {call:PCall} {fl:Nat} {ops:Array Oper} {l:List Oper} {fr fr1:List PD} {σ σ1:List SObj} {K:List PD→List SObj→Prop}
variable {dst:Option Tmp} {x y:Operand} {t u ty:TypeId} {pos:String} {edges:Array Edge} {guard:Option (Nat×Bool)} {p r:PD} {bs:List UInt8}
theorem SQ.appendT (hub:(isText P u&&pbyteRow P t)=true) (hw:Region.wanted ⟨dst,.call { callee:=.builtin .append,args:=#[x,y],argTypes:=#[t,u] },ty,pos,edges,guard⟩ (pyield ops fr)=true) (hx:evalO fr x=some p) (hy:evalO fr y=some (.str bs))
  (hr:(if trow t fr.length=true then prowAppend P fr.length fl σ t p (textPD bs) else pappend P fl σ t p (textPD bs))=some (r,σ1)) (hf:pput fr dst r=fr1) (k:SQ P call fl ops l fr1 σ1 K):SQ P call fl ops (⟨dst,.call { callee:=.builtin .append,args:=#[x,y],argTypes:=#[t,u] },ty,pos,edges,guard⟩::l) fr σ K:=by
 simp only [Bool.and_eq_true] at hub
 have hu:P.underlying u=some .string:=by
  have:=hub.1
  unfold isText at this
  split at this
  ·assumption
  ·cases this
 have hne:t≠u:=by
  rintro rfl
  have:=hub.2
  unfold pbyteRow at this
  rw [hu] at this
  cases this
 refine .step hw (pstep_mem rfl ?_ ?_) (hf▸k)
 ·simp only [pval,pevals,evalO_ok hx,evalO_ok hy,pbuiltin]
 ·simp only [pmem,pevals,evalO_ok hx,evalO_ok hy,hne,if_false,hu,hub.2,if_true]
  unfold textPD at hr
  by_cases hm:trow t fr.length=true
  ·rw [if_pos hm] at hr
   rw [hr]
  ·rw [if_neg hm] at hr
   have:prowAppend P fr.length fl σ t p (.slice (if bs.length=0 then 0 else 1) (bs.map fun b=>.int .u8 b.toNat) .any)=none:=by unfold prowAppend;rw [if_neg hm]
   rw [this]
   exact hr
theorem SL.appendT (hub:(isText P u&&pbyteRow P t)=true) (hw:Wt (Region.wanted ⟨dst,.call { callee:=.builtin .append,args:=#[x,y],argTypes:=#[t,u] },ty,pos,edges,guard⟩ (pyield ops fr)=true)) (hx:evalO fr x=some p) (hy:evalO fr y=some (.str bs))
  (hr:By ((if trow t fr.length=true then prowAppend P fr.length fl σ t p (textPD bs) else pappend P fl σ t p (textPD bs))=some (r,σ1))) (hf:Fr (pput fr dst r=fr1)) (k:SQ P call fl ops l fr1 σ1 K):SQ P call fl ops (⟨dst,.call { callee:=.builtin .append,args:=#[x,y],argTypes:=#[t,u] },ty,pos,edges,guard⟩::l) fr σ K:=SQ.appendT hub hw.h hx hy hr.h hf.h k
def isI64 (P:Program) (u:TypeId):Bool:=match P.underlying u with
 | some (.int .i64)=>true
 | _=>false
theorem SQ.appendZ {m:Int} (hub:(isI64 P u&&pbyteRow P t)=true) (hw:Region.wanted ⟨dst,.call { callee:=.builtin .append,args:=#[x,y],argTypes:=#[t,u] },ty,pos,edges,guard⟩ (pyield ops fr)=true) (hx:evalO fr x=some p) (hy:evalO fr y=some (.int .i64 m))
  (hr:pzeroApp P fr.length σ t p m=some (r,σ1)) (hf:pput fr dst r=fr1) (k:SQ P call fl ops l fr1 σ1 K):SQ P call fl ops (⟨dst,.call { callee:=.builtin .append,args:=#[x,y],argTypes:=#[t,u] },ty,pos,edges,guard⟩::l) fr σ K:=by
 simp only [Bool.and_eq_true] at hub
 have hu:P.underlying u=some (.int .i64):=by
  have:=hub.1
  unfold isI64 at this
  split at this
  ·assumption
  ·cases this
 have hne:t≠u:=by
  rintro rfl
  have:=hub.2
  unfold pbyteRow at this
  rw [hu] at this
  cases this
 refine .step hw (pstep_mem rfl ?_ ?_) (hf▸k)
 ·simp only [pval,pevals,evalO_ok hx,evalO_ok hy,pbuiltin]
 ·simp only [pmem,pevals,evalO_ok hx,evalO_ok hy,hne,if_false,hu]
  exact hr
theorem SL.appendZ {m:Int} (hub:(isI64 P u&&pbyteRow P t)=true) (hw:Wt (Region.wanted ⟨dst,.call { callee:=.builtin .append,args:=#[x,y],argTypes:=#[t,u] },ty,pos,edges,guard⟩ (pyield ops fr)=true)) (hx:evalO fr x=some p) (hy:evalO fr y=some (.int .i64 m))
  (hr:By (pzeroApp P fr.length σ t p m=some (r,σ1))) (hf:Fr (pput fr dst r=fr1)) (k:SQ P call fl ops l fr1 σ1 K):SQ P call fl ops (⟨dst,.call { callee:=.builtin .append,args:=#[x,y],argTypes:=#[t,u] },ty,pos,edges,guard⟩::l) fr σ K:=SQ.appendZ hub hw.h hx hy hr.h hf.h k
theorem SQ.makeMF {f:FuncId} (hw:Region.wanted ⟨dst,.makeFunc (.func f) #[x] #[],ty,pos,edges,guard⟩ (pyield ops fr)=true) (hx:evalO fr x=some p) (hf:pput fr dst (.mfunc f [p])=fr1) (k:SQ P call fl ops l fr1 σ K) :
  SQ P call fl ops (⟨dst,.makeFunc (.func f) #[x] #[],ty,pos,edges,guard⟩::l) fr σ K:=
 .step hw (pstep_val rfl (by
  have h:pevals fr (#[x]:Array Operand).toList=some [p]:=by
   show pevals fr [x]=some [p]
   unfold pevals
   rw [evalO_ok hx]
   rfl
  show (if (#[x]:Array Operand).size=0 then (match pevals fr (#[]:Array Operand).toList with | some ps=>some (PD.func f ps) | none=>none) else if (#[]:Array Operand).size=0 then (match pevals fr (#[x]:Array Operand).toList with | some ps=>some (PD.mfunc f ps) | none=>none) else none)=_
  rw [if_neg (by simp),if_pos (by rfl),h])) (hf▸k)
theorem SL.makeMF {f:FuncId} (hw:Wt (Region.wanted ⟨dst,.makeFunc (.func f) #[x] #[],ty,pos,edges,guard⟩ (pyield ops fr)=true)) (hx:evalO fr x=some p) (hf:Fr (pput fr dst (.mfunc f [p])=fr1)) (k:SQ P call fl ops l fr1 σ K) :
  SQ P call fl ops (⟨dst,.makeFunc (.func f) #[x] #[],ty,pos,edges,guard⟩::l) fr σ K:=SQ.makeMF hw.h hx hf.h k
theorem SQ.mcall {g:Operand} {args:Array Operand} {ts:Array TypeId} {f:FuncId} {first ps:List PD} (hw:Region.wanted ⟨dst,.call { callee:=.value g,args:=args,argTypes:=ts },ty,pos,edges,guard⟩ (pyield ops fr)=true) (hg:evalO fr g=some (.mfunc f first))
  (hx:evalsO fr args.toList=some ps) (hr:call fl (.inl f) (first++ps) σ=some (r,σ1)) (hf:pput fr dst r=fr1) (k:SQ P call fl ops l fr1 σ1 K):SQ P call fl ops (⟨dst,.call { callee:=.value g,args:=args,argTypes:=ts },ty,pos,edges,guard⟩::l) fr σ K:=by
 refine .step hw ?_ (hf▸k)
 simp only [pstep,pcallee,evalO_ok hg,evalsO_ok hx,hr]
theorem SL.mcall {g:Operand} {args:Array Operand} {ts:Array TypeId} {f:FuncId} {first ps:List PD} (hw:Wt (Region.wanted ⟨dst,.call { callee:=.value g,args:=args,argTypes:=ts },ty,pos,edges,guard⟩ (pyield ops fr)=true)) (hg:evalO fr g=some (.mfunc f first))
  (hx:evalsO fr args.toList=some ps) (hr:By (call fl (.inl f) (first++ps) σ=some (r,σ1))) (hf:Fr (pput fr dst r=fr1)) (k:SQ P call fl ops l fr1 σ1 K):SQ P call fl ops (⟨dst,.call { callee:=.value g,args:=args,argTypes:=ts },ty,pos,edges,guard⟩::l) fr σ K:=SQ.mcall hw.h hg hx hr.h hf.h k
end
end Go.Kz

namespace Go.Kz
mutual
def PD.flat:PD→Bool
 | .bool _ | .int _ _ | .str _ | .nilptr | .nilfunc | .opq _=>true
 | .agg cs=>PD.flatL cs
 | .tup cs=>PD.flatL cs
 | _=>false
def PD.flatL:List PD→Bool
 | []=>true
 | x::xs=>x.flat&&PD.flatL xs
end
theorem PD.flatL_all:∀ xs:List PD,PD.flatL xs=xs.all PD.flat
 | []=>by simp [PD.flatL]
 | x::xs=>by simp [PD.flatL,PD.flatL_all xs]
theorem VR.flat {c c':Cx} {v:Value} {p:PD} (hv:VR c v p):p.flat=true→VR c' v p:=by
 have at_:∀ {ds:List PD} {i:Nat} {d:PD},PD.flatL ds=true→ds[i]?=some d→d.flat=true:=by
  intro ds i d h hd
  rw [PD.flatL_all] at h
  exact List.all_eq_true.1 h d (List.mem_of_getElem? hd)
 induction hv with
 | bool b=>intro _;exact .bool b
 | int k n=>intro _;exact .int k n
 | str s=>intro _;exact .str s
 | agg cs ds hl h1 _ ih=>
   intro hp
   simp only [PD.flat] at hp
   exact .agg cs ds hl h1 (fun i v d hv hd=>ih i v d hv hd (at_ hp hd))
 | slice A n cap size xs tok fl' hn hc hm hx hf h1 hcl _ ht ih=>intro hp;simp [PD.flat] at hp
 | ptr id off b hd hs hr=>intro hp;simp [PD.flat] at hp
 | sref id off n cap size b hd hs hr h1 h2=>intro hp;simp [PD.flat] at hp
 | rref id ver off n cap size b hp1 h1 h2=>intro hp;simp [PD.flat] at hp
 | rptr id ver off b hp1=>intro hp;simp [PD.flat] at hp
 | mref id b hd hn hr=>intro hp;simp [PD.flat] at hp
 | iface t v p _ ih=>intro hp;simp [PD.flat] at hp
 | eptr ad fl' ds off hl h1 hcl _ ih=>intro hp;simp [PD.flat] at hp
 | nilptr=>intro _;exact .nilptr
 | func f cs ds hl _ ih=>intro hp;simp [PD.flat] at hp
 | mfunc f cs ds hl _ ih=>intro hp;simp [PD.flat] at hp
 | nilfunc=>intro _;exact .nilfunc
 | opq v h=>intro _;exact .opq v h
 | yield id l hd hn hr=>intro hp;simp [PD.flat] at hp
 | tup cs ds hl _ ih=>
   intro hp
   simp only [PD.flat] at hp
   exact .tup cs ds hl (fun i v d hv hd=>ih i v d hv hd (at_ hp hd))
def Cx.boxed (c:Cx) (a:Addr):Prop:=∃ id p b,c.D id∧c.σ[id]?=some (.box p)∧c.ρ id=.pointer (some ⟨b,0,none⟩)∧a.block=b
def Cx.open (c:Cx):Cx:={ w:=c.w,ρ:=fun _=>undef,σ:=[],D:=fun _=>False,X:=fun a=>c.av a∨c.boxed a }
theorem open_av {c:Cx} (a:Addr):c.open.av a↔(c.av a∨c.boxed a):=⟨fun h=>h.1,fun h=>⟨h,fun _ _ hd=>hd.elim⟩⟩
theorem Sr.open {c:Cx} (hs:Sr c):Sr c.open where
 box:=fun _ _ h=>h.elim
 own:=fun _ _ _ _ h=>h.elim
 row:=fun _ _ _ _ _ h=>h.elim
 map:=fun _ _ h=>h.elim
 mark:=fun _ h=>h.elim
 loop:=fun _ _ _ _ _ _ h=>h.elim
 inj:=fun _ _ _ h=>h.elim
 lt:=fun _ _ h=>h.elim
 dom:=fun _ h=>h.elim
 fresh:=fun _ h=>.inl (av_fresh hs h)
 glob:=⟨fun g ds e=>(hs.glob.1 g ds e).free (fun a v h1 h2=>⟨(open_av a).2 (.inl h1),h2⟩) (by simpa [PD.idfree] using gcells_free e),fun g hh=>⟨(hs.glob.2 g hh).1,fun _ h=>h.elim⟩⟩
end Go.Kz

namespace Go.Kz
def isU8:TypeDesc→Bool
 | .int .u8=>true
 | _=>false
theorem isU8_is {u:TypeDesc} (h:isU8 u=true):u=.int .u8:=by
 unfold isU8 at h
 split at h
 ·rfl
 ·cases h
def hasAt:List PD→Nat→Bool
 | [],_=>false
 | _::_,0=>true
 | _::r,n+1=>hasAt r n
theorem hasAt_lt:∀ {fr:List PD} {d:Nat},hasAt fr d=true→d < fr.length
 | [],_,h=>by cases h
 | _::_,0,_=>by simp
 | _::r,n+1,h=>by
   have:=hasAt_lt (fr:=r) (d:=n) h
   simp only [List.length_cons]
   omega
theorem Wp.pairS {P:Program} {E:PExt} {rd:Option Nat} {fl:Nat} {fr:List PD} {ms:List Nat} {σ:List SObj} {Q:PO→Prop} {ops:Array Oper} {id d len n t e:Nat} {parts:Array (Nat×Operand)} {ty1 ty2:TypeId} {pos1 pos2:String} {ed1 ed2:Array Edge}
  {d2:Option Tmp} {rest:List Oper} {ps:List (Nat×PD)} {xs:List PD} {fr1:List PD}
  (hops:ops.toList=⟨some d,.buildSlice t len parts,ty1,pos1,ed1,none⟩::⟨d2,.convert t t (.tmp d),ty2,pos2,ed2,none⟩::rest) (hu:P.underlying t=some (.slice e)) (he:P.underlying e=some (.int .u8)) (hd:d < fr.length)
  (hx:evalPartsO fr parts.toList=some ps) (hn:pnewSlice P t len (ps.map fun q=>(q.1,q.2.strip))=some (.slice n xs .full)) (hf:pput (fr.set d (.slice n xs .full)) d2 (.slice n xs .full)=fr1)
  (k:SQ P (pcallE E) fl ops rest fr1 σ (fun fr' σ'=>Q ⟨.normal,fr',ms,σ'⟩)):Wp P E rd (.region id ops false) fl fr ms σ Q:=by
 obtain ⟨fr',σ',h1,h2⟩:=k.ex
 have hev:=evalPartsO_ok hx
 refine ⟨_,.pair (N:=0) (fr1:=fr') (σ1:=σ') (fun m _=>?_),h2⟩
 have e1:pseq P (pcall P E m) fl ops ops.toList fr σ=none:=by
  rw [hops]
  have s1:pstep P (pcall P E m) fl fr σ (.buildSlice t len parts)=some (.slice n xs .full,σ):=by
   unfold pstep pop
   simp only [pcallee,pval,pmem,hev,hn]
  have s2:pstep P (pcall P E m) fl (fr.set d (.slice n xs .full)) σ (.convert t t (.tmp d))=none:=by
   have:(fr.set d (.slice n xs .full)).getD d (.tup [])=.slice n xs .full:=by simp [List.getD,hd]
   unfold pstep pop
   simp only [pcallee,pval,pmem,peval,this,pconv,pcopies,hu,prowStr,prow]
   repeat' split
   all_goals first | rfl | (simp_all;done)
  simp only [pseq,Region.wanted,if_true,s1,pput,s2]
 unfold pregion
 rw [e1]
 simp only
 rw [hops]
 simp only [ppairs,hu,he,hev,hn]
 rw [if_pos ⟨trivial,trivial,trivial,hd⟩,hf]
 exact pseq_up h1
theorem WL.pair {P:Program} {E:PExt} {rd:Option Nat} {fl:Nat} {fr:List PD} {ms:List Nat} {σ:List SObj} {Q:PO→Prop} {ops:Array Oper} {y:Code} {id d len n t e:Nat} {parts:Array (Nat×Operand)} {ty1 ty2:TypeId} {pos1 pos2:String} {ed1 ed2:Array Edge}
  {d2:Option Tmp} {rest:List Oper} {ps:List (Nat×PD)} {xs:List PD} {fr1:List PD}
  (hops:ops.toList=⟨some d,.buildSlice t len parts,ty1,pos1,ed1,none⟩::⟨d2,.convert t t (.tmp d),ty2,pos2,ed2,none⟩::rest) (hu:By (P.underlying t=some (.slice e))) {u:TypeDesc} (he:By (P.underlying e=some u)) (hi:Wt (isU8 u=true)) (hd:Wt (hasAt fr d=true))
  (hx:evalPartsO fr parts.toList=some ps) (hn:By (pnewSlice P t len (ps.map fun q=>(q.1,q.2.strip))=some (.slice n xs .full))) (hf:Fr (pput (fr.set d (.slice n xs .full)) d2 (.slice n xs .full)=fr1))
  (k:SQ P (pcallE E) fl ops rest fr1 σ (fun fr' σ'=>Wp P E rd y fl fr' ms σ' Q)):Wp P E rd (.seq (.region id ops false) y) fl fr ms σ Q:=by
 refine Wp.seq ?_
 exact Wp.pairS hops hu.h (he.h.trans (congrArg some (isU8_is hi.h))) (hasAt_lt hd.h) hx hn.h hf.h (by
  obtain ⟨a,b,h1,h2⟩:=k.ex
  exact ⟨a,b,h1,.normal h2⟩)
end Go.Kz

namespace Go.Kz
structure Hd (R:Prop):Prop where
 out:R
theorem goA {R G:Prop} (r:R) (h:Hd R→G:=by
  (intro hh
   (repeat (first
    | (refine Fr.i ?_;simp only [pput,List.set_cons_zero,List.set_cons_succ];try rfl)
    | (refine By.i ?_;(focus (simp (disch:=first | omega | (simp;done) | (simp;omega)) [wrap_i64,wrap_u64,gx,entry,gf0,gf1,gf2,gf3];first | done | rfl | exact ⟨rfl,rfl⟩)))
    | (refine By.i ?_;simp (disch:=first | omega | (simp;done) | (simp;omega)) [wrap_i64,wrap_u64,gx,entry,gf0,gf1,gf2,gf3];refine ⟨(by (try simp only [List.length_append,List.length_cons,List.length_nil,maxLen]);omega),rfl⟩)
    | (refine Wt.i ?_;first | rfl | (focus (simp [gx,entry,gf0,gf1,gf2,gf3];done)))
    | (refine Ns.i ?_;(try simp only [List.append_nil,List.nil_append,List.cons_append,List.append_assoc,List.length_append,List.length_cons,List.length_nil,Nat.zero_add,Nat.reduceAdd]);rfl) | rfl
    | (apply SL.pass;(focus (refine Wt.i ?_;rfl))) | (apply SL.appendT;(focus decide +kernel)) | (apply SL.convertR;(focus rfl)) | apply SL.move | apply SL.assign | apply SL.load | apply SL.isnilE | apply SL.isnilN | apply SL.make
    | apply SL.binOp | apply SL.append | (apply SL.appendZ;(focus decide +kernel)) | apply SL.copy | apply SL.builtin | apply SL.fieldAddr | apply SL.indexAddr | apply SL.field | apply SL.extract | (apply SL.mcall;rotate_left;(focus rfl);rotate_right) | apply SL.fcall | apply SL.pick | apply SL.store | apply SL.unOp | apply SL.convert | apply SL.index
    | apply SL.slice | apply SL.build | apply SL.nilCheck | apply SL.buildSlice | apply SL.box | apply SL.alloc | apply SL.makeFunc | apply SL.makeMF | apply SQ.nil | (apply WL.reg;(focus decide +kernel))
    | (apply WL.drawP (by assumption);(focus decide +kernel);(focus decide +kernel)) | (apply WL.drawF;(focus decide +kernel);(focus decide +kernel)) | (apply WL.reg1;(focus decide +kernel))
    | (apply WL.drawP1 (by assumption);(focus decide +kernel);(focus decide +kernel)) | (apply WL.drawF1;(focus decide +kernel);(focus decide +kernel)) | (apply WL.drawM (by assumption);(focus decide +kernel);(focus decide +kernel))
    | (apply WL.drawM1 (by assumption);(focus decide +kernel);(focus decide +kernel)) | (apply WL.drawA (by assumption);(focus decide +kernel);(focus decide +kernel))
    | (apply WL.drawA1 (by assumption);(focus decide +kernel);(focus decide +kernel)) | apply WL.skip | (apply WL.ct;(focus rfl)) | (apply WL.cf;(focus rfl)) | refine SeqQ.normal ?_ | refine SeqQ.ret ?_ | refine SeqQ.exit ?_
    | refine BlockQ.normal ?_ | refine BlockQ.ret ?_ | refine BlockQ.here ?_ | refine BlockQ.there (by decide) ?_ | refine Wp.block ?_ | refine Wp.skip ?_ | refine Wp.ret ?_ | refine Wp.exit ?_ | refine LoopI.ret ?_ | refine LoopI.exit ?_
    | refine LoopQ.normal ?_ | refine LoopQ.ret ?_ | refine LoopQ.exit ?_ | refine Wp.seq (Wp.seq ?_) | refine Wp.seq (Wp.block ?_) | (refine Wp.seq ?_;apply WL.ct;(focus rfl)) | (refine Wp.seq ?_;apply WL.cf;(focus rfl))))
   exact hh.out)):G:=h ⟨r⟩
end Go.Kz

namespace Go.Kz
end Go.Kz

namespace Go.Kz
open Go
section
variable {P:Program} {call:PCall} {fl:Nat} {ops:Array Oper}
end
section
variable {P:Program} {E:PExt} {fl:Nat} {ops:Array Oper}
end
end Go.Kz

namespace Go.Kz
theorem fenced_open {F:Fence} {P:Program} (hF:Open F P) (m:Machine):m.fenced P F:=by
 intro g _
 refine ⟨fun h=>?_,Or.inl (hF.fn _),fun _ _=>hF.fn _,fun _ h=>?_⟩
 ·rw [hF.alive] at h
  cases h
 ·rw [hF.depth] at h
  cases h
theorem comesIn_open {F:Fence} {P:Program} (hF:Open F P) {m m':Machine} {e:Ending} (h:Comes P m m' e):ComesIn (Machine.fenced P F) P m m' e:=by
 cases e with
 | returned v=>exact (StepsIn.of_steps h).mono fun m _=>fenced_open hF m
 | panicked chain=>exact (StepsIn.of_steps h).mono fun m _=>fenced_open hF m
 | outgrown=>exact h
theorem callsIn_open {F:Fence} {P:Program} (hF:Open F P) {n:Nat} {f:FuncId} {args:Array Value} {w:World} {R:Ending→World→Prop} (h:Calls P f args w R):CallsIn F n P f args w R:=
 ⟨hF.fn f,fun cs _=>let ⟨e,w',fr,r,s,x⟩:=h cs;⟨e,w',fr,r,comesIn_open hF s,x⟩⟩
theorem ExtOk.addRaw {P:Program} {E:PExt} (hE:ExtOk P E) {f:FuncId} {g:Nat→List PD→List SObj→Option (PD×List SObj)} (hf:∃ fn,P.funcs[f]?=some fn∧fn.body.isSome=true)
  (h:∀ (fl:Nat) (args:List PD) (c:Cx) (vs:List Value) (p:PD) (σ':List SObj),g fl args c.σ=some (p,σ')→Sr c→Xw fl c→VRs c vs args→Calls P f vs.toArray c.w (Gives fl c p σ')):ExtOk P (E.add f g):=by
 intro F fl f' g' args c vs p σ' hF hg hgo hs hX hv
 unfold PExt.add at hg
 split at hg
 ·rename_i e
  subst e
  simp only [Option.some.injEq] at hg;subst hg
  exact ⟨hf,fun m=>callsIn_open hF (h fl args c vs p σ' hgo hs hX hv)⟩
 ·exact hE hF hg hgo hs hX hv
theorem ExtOk.addLib {P:Program} {E:PExt} (hE:ExtOk P E) {f:FuncId} {g:List PD→Option PD} (hf:∃ fn,P.funcs[f]?=some fn∧fn.body.isSome=true)
  (h:∀ (args:List PD) (c:Cx) (vs:List Value) (p:PD),g args=some p→Sr c→VRs c vs args→Calls P f vs.toArray c.w fun e w'=>∃ v,e=.returned v∧c.w.grownBy w' none∧(Sr (c.at w')→VR (c.at w') v p)):ExtOk P (E.add f (entry g)):=by
 refine hE.addRaw hf fun fl args c vs p σ' hg hs _ hv=>?_
 unfold entry at hg
 cases hga:g args with
 | none=>rw [hga] at hg;cases hg
 | some q=>
   rw [hga] at hg
   simp only [Option.some.injEq,Prod.mk.injEq] at hg
   obtain ⟨rfl,rfl⟩:=hg
   refine Calls.mono (h args c vs q hga hs hv) fun e w' he=>?_
   obtain ⟨v,rfl,hgr,hvv⟩:=he
   have hs':=hs.grow hgr
   exact ⟨c.at w',rfl,rfl,hs',Nx.grow hs hgr,hvv hs',fun _ h=>.inl h⟩
theorem grownBy_refl (w:World):w.grownBy w none:=⟨rfl,rfl,rfl,Nat.le_refl _,fun _ _ _=>rfl⟩
theorem vrs_one {c:Cx} {vs:List Value} {p:PD} (h:VRs c vs [p]):∃ v,vs=[v]∧VR c v p:=by
 match vs,h.1 with
 | [v],_=>exact ⟨v,rfl,h.2 0 _ _ rfl rfl⟩
theorem vrs_two {c:Cx} {vs:List Value} {p q:PD} (h:VRs c vs [p,q]):∃ v u,vs=[v,u]∧VR c v p∧VR c u q:=by
 match vs,h.1 with
 | [v,u],_=>exact ⟨v,u,rfl,h.2 0 _ _ rfl rfl,h.2 1 _ _ rfl rfl⟩
theorem VR.int_eq {c:Cx} {v:Value} {k:IntKind} {n:Int} (h:VR c v (.int k n)):v=.int k n:=by cases h;rfl
theorem VR.str_eq {c:Cx} {v:Value} {s:List UInt8} (h:VR c v (.str s)):v=.string ⟨s.toArray⟩:=by cases h;rfl
end Go.Kz

namespace Go.Kz
section
variable {c:Cx} {w':World} {id n cap g size:Nat} {e:TypeId} {cur:Array Value} {fz fz':Nat×Nat}
theorem refz_cell (hg:c.w.heap[g]?=some (.cells cur e fz)) (h1:∀ k,k≠g→w'.heap[k]?=c.w.heap[k]?) (h2:w'.heap[g]?=some (.cells cur e fz')) (a:Addr):w'.cell? a=c.w.cell? a:=by
 unfold World.cell?
 by_cases h:a.block=g
 ·rw [h,hg,h2]
 ·rw [h1 _ h]
theorem Nx.refz {fl:Nat} (hd:c.D id) (hρ:c.ρ id=.slice (some ⟨g,0,none⟩) n cap) (hfl:fl≤id) (hg:c.w.heap[g]?=some (.cells cur e fz))
  (h0:w'.os=c.w.os∧w'.tape=c.w.tape∧w'.output=c.w.output∧w'.heap.size=c.w.heap.size) (h1:∀ k,k≠g→w'.heap[k]?=c.w.heap[k]?) (h2:w'.heap[g]?=some (.cells cur e fz')):Nx fl c (c.at w') where
 X:=rfl
 os:=h0.1
 tape:=h0.2.1
 output:=h0.2.2.1
 size:=Nat.le_of_eq h0.2.2.2.symm
 len:=Nat.le_refl _
 cell:=fun a v ha hv=>⟨ha,by show w'.cell? a=_;rw [refz_cell hg h1 h2];exact hv⟩
 dom:=fun _ h=>h
 new:=fun _ h=>.inl h
 rbox:=fun _ p _ h=>⟨rfl,p,h⟩
 rkeep:=fun _ _ h=>⟨rfl,h⟩
 rown:=fun _ _ _ n _ h=>⟨n,h,Nat.le_refl _,fun _=>rfl⟩
 rrow:=fun _ _ _ v cs _ h=>⟨v,cs,h,Nat.le_refl _,fun _=>rfl⟩
 back:=fun _ _ h h' _=>⟨h,h'⟩
 frame:=fun k _ hx=>h1 k fun e=>hx id hd hfl (by rw [hρ,e];rfl)
 ro:=fun _ _ _=>rfl
 hole:=fun _ _ _=>rfl
theorem Sr.refz (hs:Sr c) (hd:c.D id) (hq:c.σ[id]?=some (.own e size n)) (hρ:c.ρ id=.slice (some ⟨g,0,none⟩) n cap) (hg:c.w.heap[g]?=some (.cells cur e fz))
  (h0:w'.os=c.w.os∧w'.tape=c.w.tape∧w'.output=c.w.output∧w'.heap.size=c.w.heap.size) (h1:∀ k,k≠g→w'.heap[k]?=c.w.heap[k]?) (h2:w'.heap[g]?=some (.cells cur e fz')) (h3:fz'.2≤n*size):Sr (c.at w'):=by
 have hb:blk (c.ρ id)=some g:=by rw [hρ];rfl
 have nx:Nx 0 c (c.at w'):=Nx.refz hd hρ (Nat.zero_le _) hg h0 h1 h2
 have far:∀ i b,c.D i→i≠id→blk (c.ρ i)=some b→w'.heap[b]?=c.w.heap[b]?:=fun i b hi hne hbi=>h1 b fun e'=>hs.inj i id b hi hd hne hbi (by rw [e'];exact hb)
 have hne:∀ i (o:SObj),c.σ[i]?=some o→(∀ e s m,o≠.own e s m)→i≠id:=fun i o ho hno e'=>by
  subst e'
  rw [hq] at ho
  simp only [Option.some.injEq] at ho
  exact hno _ _ _ ho.symm
 refine ⟨?_,?_,?_,?_,?_,?_,hs.inj,?_,hs.dom,?_,hs.glob.mono nx⟩
 ·intro i p hi hp
  obtain ⟨b',cs',T',e1,e2,e3,e4⟩:=hs.box i p hi hp
  exact ⟨b',cs',T',e1,by show w'.heap[b']?=_;rw [far i b' hi (hne i _ hp (fun _ _ _ e=>by cases e)) (by rw [e1];rfl)];exact e2,e3.mono nx,e4⟩
 ·intro i e0 s m hi ho
  by_cases hii:i=id
  ·subst hii
   have ho':c.σ[i]?=some (.own e0 s m):=ho
   rw [hq] at ho'
   simp only [Option.some.injEq,SObj.own.injEq] at ho'
   obtain ⟨rfl,rfl,rfl⟩:=ho'
   obtain ⟨xs,hx⟩:=hs.own i _ _ _ hi hq
   refine ⟨xs,hx.1,?_⟩
   rcases hx.2 with hv | ⟨g1,cap1,cur1,fz1,hv,hb1,hg1,_,r⟩
   ·rw [hρ] at hv
    simp at hv
   ·rw [hρ] at hv
    simp only [Value.slice.injEq,Option.some.injEq,Addr.mk.injEq,and_true] at hv
    obtain ⟨rfl,_,rfl⟩:=hv
    rw [hg] at hg1
    simp only [Option.some.injEq,Obj.cells.injEq] at hg1
    obtain ⟨rfl,_,rfl⟩:=hg1
    exact .inr ⟨g,cap,cur,fz',hρ,hb1,h2,h3,r⟩
  ·obtain ⟨xs,hx⟩:=hs.own i e0 s m hi ho
   exact ⟨xs,own_kept hx (fun g' hg'=>far i g' hi hii hg')⟩
 ·intro i e0 sz ver ds hi ho
  obtain ⟨b',C,cur,e1,e2,e3,e4,e5,e6,e7,e8⟩:=hs.row i e0 sz ver ds hi ho
  exact ⟨b',C,cur,e1,by show w'.heap[b']?=_;rw [far i b' hi (hne i _ ho (fun _ _ _ e=>by cases e)) (by rw [e1];rfl)];exact e2,e3,e4,e5,e6,e7.mono nx,e8⟩
 ·intro i es hi ho
  obtain ⟨b',ents,clock,e1,e2,e3,e4⟩:=hs.map i es hi ho
  exact ⟨b',ents,clock,e1,by show w'.heap[b']?=_;rw [far i b' hi (hne i _ ho (fun _ _ _ e=>by cases e)) (by rw [e1];rfl)];exact e2,e3.mono nx,e4.mono nx⟩
 ·intro i hi hm
  obtain ⟨b',e1,e2⟩:=hs.mark i hi hm
  exact ⟨b',e1,by show w'.heap[b']?=_;rw [far i b' hi (hne i _ hm (fun _ _ _ e=>by cases e)) (by rw [e1];rfl)];exact e2⟩
 ·intro i st fr ps asg bd hi hm
  obtain ⟨b',r,e1,e2,e3,e4,e5,e6,e7⟩:=hs.loop i st fr ps asg bd hi hm
  exact ⟨b',r,e1,by show w'.heap[b']?=_;rw [far i b' hi (hne i _ hm (fun _ _ _ e=>by cases e)) (by rw [e1];rfl)];exact e2,e3,e4,e5,e6.mono nx,e7⟩
 ·intro i b hi hbi
  show b < w'.heap.size
  rw [h0.2.2.2]
  exact hs.lt i b hi hbi
 ·intro a ha
  have:w'.heap.size≤a.block:=ha
  rw [h0.2.2.2] at this
  exact hs.fresh a this
end
def bytesPD:List PD→Option (List UInt8)
 | []=>some []
 | .int .u8 n::r=>if 0≤n∧n < 256 then (match bytesPD r with | some l=>some (UInt8.ofNat n.toNat::l) | none=>none) else none
 | _=>none
@[simp] theorem bytesPD_map:∀ l:List UInt8,bytesPD (l.map fun b=>PD.int .u8 b.toNat)=some l
  | []=>rfl
  | b::r=>by
    have hb:(b.toNat:Int) < 256:=by have:=b.toNat_lt;omega
    have h0:(0:Int)≤(b.toNat:Int):=by omega
    simp only [List.map_cons,bytesPD,hb,h0,and_self,if_true,bytesPD_map r,Int.toNat_natCast]
    simp
theorem bytesPD_of:∀ {xs:List PD} {l:List UInt8},bytesPD xs=some l→xs=l.map fun b=>PD.int .u8 b.toNat
 | [],l,h=>by simp only [bytesPD,Option.some.injEq] at h;subst h;rfl
 | x::r,l,h=>by
   unfold bytesPD at h
   split at h
   ·cases ‹_::_=[]›
   ·rename_i n r' heq
    simp only [List.cons.injEq] at heq
    obtain ⟨rfl,rfl⟩:=heq
    split at h
    ·rename_i hn
     split at h
     ·rename_i l' hl
      simp only [Option.some.injEq] at h
      subst h
      rw [List.map_cons,← bytesPD_of hl]
      congr 2
      have:(UInt8.ofNat n.toNat).toNat=n.toNat:=by
       simp only [UInt8.toNat_ofNat']
       omega
      omega
     ·cases h
    ·cases h
   ·cases h
end Go.Kz

namespace Go.Kz
def pch (n:Nat) (k:Nat) (cs:List PD):List PD:=if n=1 then cs.take k else pchunks n k cs
def thaw (σ:List SObj):Nat→PD→PD
 | 0,p=>p
 | k+1,.agg cs=>.agg (cs.map (thaw σ k))
 | k+1,.tup cs=>.tup (cs.map (thaw σ k))
 | k+1,.slice n xs _=>.slice n (xs.map (thaw σ k)) .any
 | k+1,.sref id off n sz=>match σ[id]? with
   | some (.box q)=>if off+n*sz≤q.cells.length then .slice sz (pch sz n ((q.cells.drop off).map (thaw σ k))) .any else .sref id off n sz
   | _=>.sref id off n sz
 | k+1,.rref id ver off n sz=>match σ[id]? with
   | some (.row _ sz' ver' cs)=>if ver'=ver∧sz'=sz∧off+n*sz≤cs.length then .slice sz (pch sz n ((cs.drop off).map (thaw σ k))) .any else .rref id ver off n sz
   | _=>.rref id ver off n sz
 | k+1,.iface t p=>.iface t (thaw σ k p)
 | _+1,p=>p
theorem thaw_plain (σ:List SObj):∀ (k:Nat) (p:PD),p.plain=true→(thaw σ k p).plain=true
 | 0,p,h=>h
 | k+1,p,h=>by
   cases p <;> simp only [thaw] <;> first
    | rfl
    | exact h
    | (simp [PD.plain] at h;done)
    | (split
       ·split <;> rfl
       ·rfl)
theorem thaw_cells (σ:List SObj):∀ (k:Nat) (p:PD) (j:Nat) (d:PD),(thaw σ k p).cells[j]?=some d→∃ k' d0,k'≤k∧p.cells[j]?=some d0∧d=thaw σ k' d0
 | 0,p,j,d,h=>⟨0,d,Nat.le_refl _,h,rfl⟩
 | k+1,p,j,d,h=>by
   by_cases hty:∃ t cs,p=.typed t cs
   ·obtain ⟨t,cs,rfl⟩:=hty
    exact ⟨0,d,Nat.zero_le _,h,rfl⟩
   have hp:∀ t cs,p≠.typed t cs:=fun t cs e=>hty ⟨t,cs,e⟩
   by_cases ha:∃ cs,p=.agg cs
   ·obtain ⟨cs,rfl⟩:=ha
    simp only [thaw,PD.cells,List.getElem?_map] at h
    cases hj:cs[j]? with
    | none=>rw [hj] at h;cases h
    | some d0=>
      rw [hj] at h
      simp only [Option.map_some,Option.some.injEq] at h
      exact ⟨k,d0,by omega,by simpa [PD.cells] using hj,h.symm⟩
   ·have hpl:p.plain=true∨∃ vs,p=.tup vs:=by
     cases p <;> first | exact .inl rfl | exact .inr ⟨_,rfl⟩ | exact absurd ⟨_,rfl⟩ ha | exact absurd rfl (hp _ _)
    have h1:p.cells=[p]:=by
     rcases hpl with h | ⟨vs,rfl⟩
     ·cases p <;> first | rfl | (simp [PD.plain] at h;done)
     ·rfl
    have h2:(thaw σ (k+1) p).cells=[thaw σ (k+1) p]:=by
     rcases hpl with h | ⟨vs,rfl⟩
     ·have:=thaw_plain σ (k+1) p h
      generalize thaw σ (k+1) p=q at *
      cases q <;> first | rfl | (simp [PD.plain] at this;done)
     ·rfl
    rw [h2] at h
    cases j with
    | zero=>
      simp only [List.getElem?_cons_zero,Option.some.injEq] at h
      exact ⟨k+1,p,Nat.le_refl _,by rw [h1];rfl,h.symm⟩
    | succ j=>simp at h
theorem thaw_size (σ:List SObj) (k:Nat) (p:PD):(thaw σ k p).cells.length=p.cells.length:=by
 cases k with
 | zero=>rfl
 | succ k=>
   cases p <;> simp only [thaw] <;> first
    | rfl
    | (simp [PD.cells];done)
    | (split
       ·split <;> rfl
       ·rfl)
theorem flat_thaw (σ:List SObj) (k:Nat):∀ (xs:List PD) (j:Nat) (d:PD),((xs.map (thaw σ k)).flatMap PD.cells)[j]?=some d→∃ k' d0,k'≤k∧(xs.flatMap PD.cells)[j]?=some d0∧d=thaw σ k' d0
 | [],j,d,h=>by simp at h
 | x::xs,j,d,h=>by
   simp only [List.map_cons,List.flatMap_cons] at h ⊢
   have hl:=thaw_size σ k x
   rw [List.getElem?_append] at h ⊢
   rw [hl] at h
   split at h
   ·rename_i hj
    rw [if_pos hj]
    exact thaw_cells σ k x j d h
   ·rename_i hj
    rw [if_neg hj]
    exact flat_thaw σ k xs _ d h
theorem pch_len {n k:Nat} {cs:List PD} (h:k*n≤cs.length):(pch n k cs).length=k:=by
 unfold pch
 split
 ·rename_i h1;subst h1;simp;omega
 ·exact pchunks_len n k cs
theorem flat_plain:∀ {cs:List PD},(∀ d∈cs,d.plain=true)→cs.flatMap PD.cells=cs
 | [],_=>rfl
 | x::xs,h=>by
   have hx:x.cells=[x]:=by
    have:=h x (by simp)
    cases x <;> first | rfl | (simp [PD.plain] at this;done)
   rw [List.flatMap_cons,hx,flat_plain (fun d hd=>h d (by simp [hd]))]
   rfl
theorem pch_flat {n k:Nat} {cs:List PD} (h:k*n≤cs.length) (hp:∀ d∈cs,d.plain=true):(pch n k cs).flatMap PD.cells=cs.take (k*n):=by
 unfold pch
 split
 ·rename_i h1
  subst h1
  rw [flat_plain (fun d hd=>hp d (List.mem_of_mem_take hd)),Nat.mul_one]
 ·exact pchunks_flat n k cs h
theorem pch_size {n k:Nat} {cs:List PD} (h:k*n≤cs.length) (hp:∀ d∈cs,d.plain=true):∀ x∈pch n k cs,x.cells.length=n:=by
 unfold pch
 split
 ·rename_i h1
  subst h1
  intro x hx
  have:=hp x (List.mem_of_mem_take hx)
  cases x <;> first | rfl | (simp [PD.plain] at this;done)
 ·exact pchunks_size n k cs h
theorem plain_of_ones {c:Cx} {cs:List Value} {ds:List PD} (h:VRs c cs ds) (h1:∀ v∈cs,v.oneCell'=true):∀ d∈ds,d.plain=true:=by
 intro d hd
 obtain ⟨i,hi⟩:=List.getElem?_of_mem hd
 have hlt:i < cs.length:=by rw [h.1];exact (List.getElem?_eq_some_iff.1 hi).1
 have:=(h.2 i cs[i] d (by simp [hlt]) hi).plain
 rw [this]
 exact h1 _ (List.getElem_mem hlt)
theorem idfree_list {xs:List PD} (h:PD.idfreeL xs=true) {d:PD} (hd:d∈xs):d.idfree=true:=by
 rw [PD.idfreeL_all] at h
 exact List.all_eq_true.1 h d hd
theorem idfree_cells {x:PD} (h:x.idfree=true) {d:PD} (hd:d∈x.cells):d.idfree=true:=by
 cases x with
 | agg cs=>simp only [PD.idfree] at h;exact idfree_list h hd
 | typed t cs=>simp only [PD.idfree] at h;exact idfree_list h hd
 | _=>simp only [PD.cells,List.mem_singleton] at hd;rw [hd];exact h
theorem thaw_VR {c1 c2:Cx} (hs:Sr c1) (hw:c2.w=c1.w) (hav:∀ a,c1.av a→c2.av a) (hnew:∀ id b,c1.D id→blk (c1.ρ id)=some b→∀ j,c2.av ⟨b,j,none⟩) :
  ∀ (k:Nat) (v:Value) (p:PD),VR c1 v p→(thaw c1.σ k p).idfree=true→VR c2 v (thaw c1.σ k p):=by
 have up:∀ a v,c1.av a→c1.w.cell? a=some v→c2.av a∧c2.w.cell? a=some v:=fun a v h1 h2=>⟨hav a h1,by rw [hw];exact h2⟩
 have row:∀ (b off n cap sz C:Nat) (cells:List Value) (ds:List PD) (T:TypeId) (cur:Array Value) (k:Nat),(∀ k'≤k,∀ v p,VR c1 v p→(thaw c1.σ k' p).idfree=true→VR c2 v (thaw c1.σ k' p))→c1.w.heap[b]?=some (.cells cur T (0,0))→(∀ j,c2.av ⟨b,j,none⟩) →
   (∀ (j:Nat) (v:Value),cells[j]?=some v→cur.toList[j]?=some v)→VRs c1 cells ds→(∀ v∈cells,v.oneCell'=true)→off+n*sz≤ds.length→n≤cap→cap≤maxLen →
   (PD.slice sz (pch sz n ((ds.drop off).map (thaw c1.σ k))) .any).idfree=true→VR c2 (.slice (some ⟨b,off,none⟩) n cap) (.slice sz (pch sz n ((ds.drop off).map (thaw c1.σ k))) .any):=by
  intro b off n cap sz C cells ds T cur k ih hb hbv hc hv h1 hle hn hm hf
  have hpd:=plain_of_ones hv h1
  have hpl:∀ d∈(ds.drop off).map (thaw c1.σ k),d.plain=true:=fun d hd=>by
   obtain ⟨d0,hd0,rfl⟩:=List.mem_map.1 hd
   exact thaw_plain _ _ _ (hpd d0 (List.mem_of_mem_drop hd0))
  have hlen:n*sz≤((ds.drop off).map (thaw c1.σ k)).length:=by simp;omega
  have hcl:cells.length=ds.length:=hv.1
  have hfl:=pch_flat hlen hpl
  refine .slice (some ⟨b,off,none⟩) n cap sz _ .any ((cells.drop off).take (n*sz)) (pch_len hlen).symm hn hm (pch_size hlen hpl) (by rw [List.length_take,List.length_drop];omega) (fun v hv'=>h1 v (List.mem_of_mem_drop (List.mem_of_mem_take hv'))) ?_ ?_ trivial
  ·intro j v hj
   refine ⟨_,rfl,?_,?_⟩
   ·rw [addr_lit,hw]
    simp only [World.cell?,hb]
    rw [List.getElem?_take] at hj
    split at hj
    ·rw [List.getElem?_drop] at hj
     simpa using hc _ v hj
    ·cases hj
   ·rw [addr_lit];exact hbv _
  ·intro j v d hj hd
   rw [hfl,List.getElem?_take] at hd
   rw [List.getElem?_take] at hj
   split at hj
   ·rename_i hjn
    rw [if_pos hjn,List.getElem?_map] at hd
    rw [List.getElem?_drop] at hj
    cases h0:(ds.drop off)[j]? with
    | none=>rw [h0] at hd;cases hd
    | some d0=>
      rw [h0] at hd
      simp only [Option.map_some,Option.some.injEq] at hd
      subst hd
      rw [List.getElem?_drop] at h0
      refine ih k (Nat.le_refl _) v d0 (hv.2 _ v d0 hj h0) ?_
      have hmem:thaw c1.σ k d0∈(pch sz n ((ds.drop off).map (thaw c1.σ k))).flatMap PD.cells:=by
       rw [hfl]
       refine List.mem_of_getElem? (i:=j) ?_
       rw [List.getElem?_take,if_pos hjn,List.getElem?_map,List.getElem?_drop,h0]
       rfl
      obtain ⟨x,hx,hxd⟩:=List.mem_flatMap.1 hmem
      simp only [PD.idfree,Bool.and_eq_true] at hf
      exact idfree_cells (idfree_list hf.1 hx) hxd
   ·cases hj
 intro k
 induction k using Nat.strongRecOn with
 | _ k ih=>
   intro v p hv hf
   cases k with
   | zero=>exact hv.free up hf
   | succ k=>
     cases hv with
     | bool b=>exact .bool b
     | int kk n=>exact .int kk n
     | str s=>exact .str s
     | nilptr=>exact .nilptr
     | nilfunc=>exact .nilfunc
     | opq v h=>exact .opq v h
     | agg cs ds hl h1 h2=>
       simp only [thaw] at hf ⊢
       simp only [PD.idfree] at hf
       refine .agg cs _ (by simpa using hl) h1 (fun i u d hu hd=>?_)
       rw [List.getElem?_map] at hd
       cases h0:ds[i]? with
       | none=>rw [h0] at hd;cases hd
       | some d0=>
         rw [h0] at hd
         simp only [Option.map_some,Option.some.injEq] at hd
         subst hd
         exact ih k (by omega) u d0 (h2 i u d0 hu h0) (idfree_list hf (List.mem_map.2 ⟨d0,List.mem_of_getElem? h0,rfl⟩))
     | tup cs ds hl h2=>
       simp only [thaw] at hf ⊢
       simp only [PD.idfree] at hf
       refine .tup cs _ (by simpa using hl) (fun i u d hu hd=>?_)
       rw [List.getElem?_map] at hd
       cases h0:ds[i]? with
       | none=>rw [h0] at hd;cases hd
       | some d0=>
         rw [h0] at hd
         simp only [Option.map_some,Option.some.injEq] at hd
         subst hd
         exact ih k (by omega) u d0 (h2 i u d0 hu h0) (idfree_list hf (List.mem_map.2 ⟨d0,List.mem_of_getElem? h0,rfl⟩))
     | iface t u q hq=>
       simp only [thaw] at hf ⊢
       simp only [PD.idfree] at hf
       exact .iface t u _ (ih k (by omega) u q hq hf)
     | slice A n cap size xs tok fl hn hc hm hx hfl h1 hcell h2 ht=>
       simp only [thaw] at hf ⊢
       simp only [PD.idfree,Bool.and_eq_true] at hf
       refine .slice A n cap size _ .any fl (by simpa using hn) hc hm ?_ hfl h1 (fun j u hj=>?_) (fun j u d hj hd=>?_) trivial
       ·intro y hy
        obtain ⟨x,hxm,rfl⟩:=List.mem_map.1 hy
        rw [thaw_size]
        exact hx x hxm
       ·obtain ⟨ad,e,g1,g2⟩:=hcell j u hj
        obtain ⟨q1,q2⟩:=up _ _ g2 g1
        exact ⟨ad,e,q2,q1⟩
       ·obtain ⟨k',d0,hk,h0,rfl⟩:=flat_thaw c1.σ k xs j d hd
        refine ih k' (by omega) u _ (h2 j u d0 hj h0) ?_
        obtain ⟨y,hy,hyd⟩:=List.mem_flatMap.1 (List.mem_of_getElem? hd)
        exact idfree_cells (idfree_list hf.1 hy) hyd
     | ptr id off b hd hq hr=>simp [thaw,PD.idfree] at hf
     | rptr id ver off b hp=>simp [thaw,PD.idfree] at hf
     | mref id b hd hn hr=>simp [thaw,PD.idfree] at hf
     | yield id l hd hn hr=>simp [thaw,PD.idfree] at hf
     | eptr ad fl ds off hl h1 hcl h2=>
       simp only [thaw] at hf ⊢
       exact (VR.eptr ad fl ds off hl h1 hcl h2).free up hf
     | func f cs ds hl h2=>
       simp only [thaw] at hf ⊢
       exact (VR.func f cs ds hl h2).free up hf
     | mfunc f cs ds hl h2=>
       simp only [thaw] at hf ⊢
       exact (VR.mfunc f cs ds hl h2).free up hf
     | sref id off n cap size b hd hq hr h1 h2=>
       simp only [thaw] at hf ⊢
       split at hf
       ·rename_i q hqq
        split at hf
        ·rename_i hle
         rw [if_pos hle]
         obtain ⟨b',cur,T,e1,e2,e3,e4⟩:=hs.box id q hd hqq
         rw [hr] at e1
         simp only [Value.pointer.injEq,Option.some.injEq,Addr.mk.injEq,and_true] at e1
         subst e1
         exact row b off n cap size 0 cur.toList q.cells T cur k (fun k' hk=>ih k' (by omega)) e2 (hnew id b hd (by rw [hr];rfl)) (fun j v h=>h) e3 e4.1 hle h1 h2 hf
        ·simp [PD.idfree] at hf
       ·simp [PD.idfree] at hf
     | rref id ver off n cap size b hp h1 h2=>
       simp only [thaw] at hf ⊢
       split at hf
       ·rename_i e sz' ver' cs hqq
        split at hf
        ·rename_i hle
         rw [if_pos hle]
         obtain ⟨rfl,rfl,hle⟩:=hle
         obtain ⟨_,C,hr,_⟩:=(hp.2 _ _ _ cs hqq).2 rfl
         obtain ⟨b',C',cur,e1,e2,e3,e4,e5,e6,e7,e8⟩:=hs.row id e _ _ cs hp.1 hqq
         rw [hr] at e1
         simp only [Value.slice.injEq,Option.some.injEq,Addr.mk.injEq,and_true,true_and] at e1
         obtain ⟨rfl,rfl⟩:=e1
         exact row b off n cap sz' 0 (cur.toList.take cs.length) cs e cur k (fun k' hk=>ih k' (by omega)) e2 (hnew id b hp.1 (by rw [hr];rfl)) (fun j v h=>by
          rw [List.getElem?_take] at h
          split at h
          ·exact h
          ·cases h) e7 (fun v hv'=>e8 v (List.mem_of_mem_take hv')) hle h1 h2 hf
        ·simp [PD.idfree] at hf
       ·simp [PD.idfree] at hf
theorem ExtOk.addFreeN {P:Program} {E:PExt} (hE:ExtOk P E) (hP:P.follows .mixedOrders=true) {f:FuncId} {g:List PD→Option PD}
  (h:∀ args p,g args=some p→∃ N k p1 σ1,pcall P E N 0 (.inl f) (args.map PD.strip) []=some (p1,σ1)∧(thaw σ1 k p1).strip=p∧(thaw σ1 k p1).idfree=true∧PD.idfreeL (args.map PD.strip)=true) :
  ExtOk P (E.add f (fun _ args σ=>match g args with | some p=>some (p,σ) | none=>none)):=by
 intro F fl f' g' args c vs p σ' hF hg hgo hs hX hv
 unfold PExt.add at hg
 split at hg
 ·rename_i e
  subst e
  simp only [Option.some.injEq] at hg;subst hg
  cases hga:g args with
  | none=>simp only [hga] at hgo;cases hgo
  | some q=>
    simp only [hga,Option.some.injEq,Prod.mk.injEq] at hgo
    obtain ⟨rfl,rfl⟩:=hgo
    obtain ⟨N,k,p1,σ1,hN,e1,e3,e2⟩:=h args q hga
    have hv0:VRs c.bare vs (args.map PD.strip):=hv.strip.free (fun a v h1 h2=>⟨(bare_av a).2 h1,h2⟩) e2
    have:=(pcall_ok hE hP hF N).fn (c:=c.bare) hN hs.bare (fun _ _ h=>h.elim) hv0
    refine ⟨this.1,fun m=>CallsIn.mono (this.2 m) fun e w' he=>?_⟩
    cases e with
    | returned v=>
      obtain ⟨c1,rfl,rfl,hs1,nx,hvv,_⟩:=he
      have hgr:c.w.grownBy c1.w none:=⟨nx.os,nx.tape,nx.output,nx.size,fun k hk _=>nx.frame k hk (fun _ h=>h.elim)⟩
      have hsc:=hs.grow hgr
      refine ⟨c.at c1.w,rfl,rfl,hsc,Nx.grow hs hgr,?_,fun _ h=>.inl h⟩
      have hav:∀ a,c1.av a→(c.at c1.w).av a:=fun a h1=>by
       have h3:c1.X a:=h1.1
       rw [nx.X] at h3
       exact h3
      have hnew:∀ id b,c1.D id→blk (c1.ρ id)=some b→∀ j,(c.at c1.w).av ⟨b,j,none⟩:=fun id b hd hb j=>by
       have hge:c.w.heap.size≤b:=by
        rcases Nat.lt_or_ge b c.w.heap.size with hlt | hge
        ·exact (nx.back id b hd hb hlt).1.elim
        ·exact hge
       refine ⟨hs.fresh _ hge,fun i o hi ho=>?_⟩
       have key:∀ b',blk (c.ρ i)=some b'→b≠b':=fun b' hb' e=>by
        have:=hs.lt i b' hi hb'
        omega
       cases o with
       | none=>trivial
       | box p=>exact key
       | own e size n=>intro b' hb' e;exact absurd e (key b' hb')
       | row e size ver ds=>exact key
       | map es=>trivial
       | mark=>trivial
       | loop st fr ps asg bd=>trivial
      have:=(thaw_VR hs1 (c2:=c.at c1.w) rfl hav hnew k v p1 hvv e3).strip
      rw [e1] at this
      exact this
    | panicked ch=>exact he.elim
    | outgrown=>exact he.elim
 ·exact hE hF hg hgo hs hX hv
theorem ExtOk.addFreeT {P:Program} {E:PExt} (hE:ExtOk P E) (hP:P.follows .mixedOrders=true) {f:FuncId} {g:List PD→Option PD}
  (h:∀ args p,g args=some p→∃ k p1 σ1,EvC P E 0 (.inl f) (args.map PD.strip) [] p1 σ1∧(thaw σ1 k p1).strip=p∧(thaw σ1 k p1).idfree=true∧PD.idfreeL (args.map PD.strip)=true) :
  ExtOk P (E.add f (fun _ args σ=>match g args with | some p=>some (p,σ) | none=>none)):=
 hE.addFreeN hP fun args p hg=>by
  obtain ⟨k,p1,σ1,⟨N,hN⟩,r⟩:=h args p hg
  exact ⟨N,k,p1,σ1,hN N (Nat.le_refl _),r⟩
def RunT (P:Program) (E:PExt) (f:FuncId) (args:List PD) (p:PD):Prop:=∃ k p1 σ1,EvC P E 0 (.inl f) args [] p1 σ1∧(thaw σ1 k p1).strip=p∧(thaw σ1 k p1).idfree=true
theorem ExtOk.addT1 {P:Program} {E:PExt} {f:FuncId} {α β:Type} (hE:ExtOk P E) (hP:P.follows .mixedOrders=true) {a:Em α} {r:Em β} {F:α→Option β} (h:∀ x z,F x=some z→RunT P E f [a.emb x] (r.emb z)):ExtOk P (E.add f (entry (gf1 a r F))):=by
 refine hE.addFreeT hP fun args p hg=>?_
 match args,hg with
 | [q],hg=>
   simp only [gf1] at hg
   split at hg
   ·rename_i x hx
    split at hg
    ·rename_i z hz
     simp only [Option.some.injEq] at hg;subst hg
     obtain ⟨k,p1,σ1,e1,e2,e3⟩:=h x z hz
     have:=Em.of_dec hx
     exact ⟨k,p1,σ1,by simpa [this] using e1,e2,e3,by simp [this,PD.idfreeL,a.fre]⟩
    ·cases hg
   ·cases hg
end Go.Kz

namespace Go.Kz
def Cx.held (c:Cx) (a:Addr):Prop:=∃ id b,c.D id∧blk (c.ρ id)=some b∧a.block=b
end Go.Kz

namespace Go.Kz
theorem EvC.unique {P:Program} {E:PExt} {fl:Nat} {f:FuncId ⊕ Nat} {args:List PD} {σ:List SObj} {r q:PD×List SObj} (h:EvC P E fl f args σ r.1 r.2) (k:EvC P E fl f args σ q.1 q.2):r=q:=by
 obtain ⟨N,hN⟩:=h
 obtain ⟨M,hM⟩:=k
 have h1:=hN (max N M) (Nat.le_max_left _ _)
 rw [hM (max N M) (Nat.le_max_right _ _)] at h1
 simp only [Option.some.injEq,Prod.mk.injEq] at h1
 exact Prod.ext h1.1.symm h1.2.symm
open Classical in
noncomputable def gEs (P:Program) (E:PExt) (f:FuncId):Nat→List PD→List SObj→Option (PD×List SObj):=fun fl args σ=>
 if h:∃ r:PD×List SObj,EvC P E fl (.inl f) args σ r.1 r.2∧σ≠[] then some (Classical.choose h) else none
theorem gEs_of {P:Program} {E:PExt} {f:FuncId} {fl:Nat} {args:List PD} {σ σ':List SObj} {p:PD} (h:EvC P E fl (.inl f) args σ p σ') (hσ:σ≠[]):gEs P E f fl args σ=some (p,σ'):=by
 unfold gEs
 have hx:∃ r:PD×List SObj,EvC P E fl (.inl f) args σ r.1 r.2∧σ≠[]:=⟨(p,σ'),h,hσ⟩
 rw [dif_pos hx]
 exact congrArg some ((Classical.choose_spec hx).1.unique (q:=(p,σ')) h)
theorem Uni.es {P:Program} {E E0:PExt} (hU:Uni E) {f:FuncId}:Uni (E.add f (gEs P E0 f)):=hU.other fun args p h=>by
 unfold gEs at h
 rw [dif_neg (fun hx=>hx.choose_spec.2 rfl)] at h
 cases h
theorem WpC.es {P:Program} {E:PExt} {f:FuncId} {fl:Nat} {args:List PD} {σ:List SObj} {R:PD→List SObj→Prop} (h:WpC P E fl (.inl f) args σ R) (hσ:σ≠[]):∃ p σ',gEs P E f fl args σ=some (p,σ')∧R p σ':=by
 obtain ⟨p,σ',h1,h2⟩:=h.ex
 exact ⟨p,σ',gEs_of h1 hσ,h2⟩
theorem ExtOk.addAlt {P:Program} {E:PExt} (hE:ExtOk P E) (hP:P.follows .mixedOrders=true) {f:FuncId} {g:Nat→List PD→List SObj→Option (PD×List SObj)}
  (h:∀ fl args σ p σ',g fl args σ=some (p,σ')→∀ (c:Cx) (vs:List Value),c.σ=σ→VRs c vs args→∃ args1 p1,VRs c vs args1∧EvC P E fl (.inl f) args1 σ p1 σ'∧∀ c' v,VR c' v p1→VR c' v p):ExtOk P (E.add f g):=by
 intro F fl f' g' args c vs p σ' hF hg hgo hs hX hv
 unfold PExt.add at hg
 split at hg
 ·rename_i e
  subst e
  simp only [Option.some.injEq] at hg;subst hg
  obtain ⟨args1,p1,hv1,⟨N,hN⟩,hp⟩:=h fl args c.σ p σ' hgo c vs rfl hv
  have:=(pcall_ok hE hP hF N).fn (hN N (Nat.le_refl _)) hs hX hv1
  refine ⟨this.1,fun m=>CallsIn.mono (this.2 m) fun e w' he=>?_⟩
  cases e with
  | returned v=>
    obtain ⟨c1,e1,e2,hs1,nx,hvv,hfin⟩:=he
    exact ⟨c1,e1,e2,hs1,nx,hp _ _ hvv,hfin⟩
  | panicked ch=>exact he.elim
  | outgrown=>exact he.elim
 ·exact hE hF hg hgo hs hX hv
end Go.Kz

namespace Go.Kz
open Go
section
variable {P:Program} {E:PExt} {fl:Nat} {ops:Array Oper}
end
noncomputable def gE0 (P:Program) (E:PExt) (f:FuncId):Nat→List PD→List SObj→Option (PD×List SObj):=fun fl args σ=>if fl=0 then gEs P E f 0 args σ else none
theorem WpC.e0 {P:Program} {E:PExt} {f:FuncId} {args:List PD} {σ:List SObj} {R:PD→List SObj→Prop} (h:WpC P E 0 (.inl f) args σ R) (hσ:σ≠[]):∃ p σ',gE0 P E f 0 args σ=some (p,σ')∧R p σ':=by
 obtain ⟨p,σ',h1,h2⟩:=h.es hσ
 exact ⟨p,σ',by unfold gE0;rw [if_pos rfl];exact h1,h2⟩
theorem Uni.e0 {P:Program} {E E0:PExt} (hU:Uni E) {f:FuncId}:Uni (E.add f (gE0 P E0 f)):=hU.other fun args p h=>by
 unfold gE0 gEs at h
 rw [if_pos rfl,dif_neg (fun hx=>hx.choose_spec.2 rfl)] at h
 cases h
end Go.Kz

namespace Go.Kz
open Classical in
noncomputable def pcallN (E:PExt):PCall:=fun fl tg args σ=>match pcallE E fl tg args σ with
 | some (p,σ')=>if pcallE E (max fl σ.length) tg args σ=some (p,σ')∧σ'=σ++σ'.drop σ.length then some (p,σ') else none
 | none=>none
theorem pcallN_of {E:PExt} {fl:Nat} {f:FuncId} {args:List PD} {σ τ:List SObj} {p:PD} {g} (hE:E f=some g) (h:∀ fl,g fl args σ=some (p,σ++τ)):pcallN E fl (.inl f) args σ=some (p,σ++τ):=by
 have e:∀ fl,pcallE E fl (.inl f) args σ=some (p,σ++τ):=fun fl=>by simp only [pcallE,hE,h]
 unfold pcallN
 simp only [e]
 rw [if_pos ⟨e _,by simp⟩]
theorem pcallN_E {E:PExt} {fl:Nat} {tg:FuncId ⊕ Nat} {args:List PD} {σ:List SObj} {x:PD×List SObj} (h:pcallN E fl tg args σ=some x):pcallE E fl tg args σ=some x∧pcallE E (max fl σ.length) tg args σ=some x∧x.2=σ++x.2.drop σ.length:=by
 unfold pcallN at h
 split at h
 ·rename_i p σ' e
  split at h
  ·rename_i hc
   simp only [Option.some.injEq] at h
   subst h
   exact ⟨e,hc.1,hc.2⟩
  ·cases h
 ·cases h
section
variable {P:Program} {E:PExt} {fl:Nat} {fr:List PD} {σ:List SObj}
theorem pstep_NE {op:Op} {x:PD×List SObj} (h:pstep P (pcallN E) fl fr σ op=some x):pstep P (pcallE E) fl fr σ op=some x:=by
 unfold pstep at h ⊢
 split at h
 ·rename_i tg args hp
  exact (pcallN_E h).1
 ·exact h
theorem pdseq_N {ops:Array Oper}:∀ (l:List Oper) (i:Nat) (fr:List PD) (σ:List SObj) (x:List PD×List SObj),ops.toList.drop i=l→mixOwn ops=true →
  pseq P (pcallN E) fl ops l fr σ=some x→pdseq P (pcallE E) fl ops (flags ops i l) fr σ=some x
 | [],_,_,_,_,_,_,h=>h
 | o::l,i,fr,σ,x,hd,hm,h=>by
   have ho:ops.toList[i]?=some o:=by
    have:=congrArg List.head? hd
    rw [List.head?_drop] at this
    simpa using this
   have hd':ops.toList.drop (i+1)=l:=by rw [← List.drop_drop,hd];rfl
   have hi:i < ops.size:=by
    have:=(List.getElem?_eq_some_iff.1 ho).1
    simpa using this
   have hown:ownOp o.op=false∨freeAt ops i=true:=by
    have hm':=hm
    rw [mixOwn,masksK_eq] at hm'
    simp only [List.all_eq_true,List.mem_range,Bool.or_eq_true,Bool.not_eq_true'] at hm'
    have:=hm' i hi
    rw [isAt,ho] at this
    simpa [freeAt] using this
   simp only [pseq] at h
   simp only [flags,pdseq]
   split at h
   ·rename_i hw
    rw [if_pos hw]
    split at h
    ·rename_i p σ1 hp
     cases hf:(!shapeMove o.op||freeAt ops i) with
     | true=>
       simp only [pstep_NE hp]
       exact pdseq_N l (i+1) _ _ _ hd' hm h
     | false=>
       simp only [Bool.or_eq_false_iff,Bool.not_eq_false'] at hf
       obtain ⟨hf1,hf2⟩:=hf
       rw [hf2] at hown
       have hop:ownOp o.op=false:=by simpa using hown
       have key:pstep P (pcallE E) (max fl σ.length) fr σ o.op=some (p,σ1)∧σ1=σ++σ1.drop σ.length:=by
        unfold pstep at hp ⊢
        split at hp
        ·rename_i tg args hpc
         obtain ⟨_,k2,k3⟩:=pcallN_E hp
         exact ⟨k2,k3⟩
        ·rename_i hpc
         exfalso
         cases hq:o.op with
         | box t x=>rw [hq] at hop;cases hop
         | call c=>
           obtain ⟨callee,args,ts⟩:=c
           cases callee with
           | builtin b=>rw [hq] at hop hf1;cases b <;> first | (cases hop;done) | (cases hf1;done)
           | value f=>rw [hq] at hp;simp [pop,pval,pmem] at hp
           | invoke r m=>rw [hq] at hf1;cases hf1
         | _=>rw [hq] at hf1;cases hf1
       simp only [key.1,← key.2]
       exact pdseq_N l (i+1) _ _ _ hd' hm h
    ·cases h
   ·rename_i hw
    rw [if_neg hw]
    exact pdseq_N l (i+1) _ _ _ hd' hm h
theorem Wp.drawV {rd:Option Nat} {ms:List Nat} {Q:PO→Prop} {ops:Array Oper} {id:Nat} (hs:(fastOk ops&&mixOwn ops)=true) (h:SQ P (pcallN E) fl ops ops.toList fr σ (fun fr' σ'=>Q ⟨.normal,fr',ms,σ'⟩)):Wp P E rd (.region id ops true) fl fr ms σ Q:=by
 simp only [Bool.and_eq_true,fastOk_eq] at hs
 obtain ⟨fr',σ',h1,h2⟩:=h.ex
 exact .draw hs.1 (pdseq_N ops.toList 0 fr σ _ rfl hs.2 h1) h2
end
end Go.Kz

namespace Go.Kz
open Go Go.Proofs
@[simp] theorem Tryz.ps3:psize Tryz.prog 3=some 1:=by kernel_rfl
@[simp] theorem Tryz.pz3:pzero Tryz.prog 3=some (.int .i64 0):=by kernel_rfl
@[simp] theorem Tryz.pe3:pelem Tryz.prog 3=some (1,8):=by kernel_rfl
@[simp] theorem Tryz.ps4:psize Tryz.prog 4=some 1:=by kernel_rfl
@[simp] theorem Tryz.ps5:psize Tryz.prog 5=some 1:=by kernel_rfl
@[simp] theorem Tryz.pz5:pzero Tryz.prog 5=some (.int .u8 0):=by kernel_rfl
@[simp] theorem Tryz.ps9:psize Tryz.prog 9=some 1:=by kernel_rfl
@[simp] theorem Tryz.pz9:pzero Tryz.prog 9=some (.str []):=by kernel_rfl
@[simp] theorem Tryz.ps22:psize Tryz.prog 22=some 1:=by kernel_rfl
@[simp] theorem Tryz.ps23:psize Tryz.prog 23=some 1:=by kernel_rfl
@[simp] theorem Tryz.ps24:psize Tryz.prog 24=some 1:=by kernel_rfl
@[simp] theorem Tryz.ps26:psize Tryz.prog 26=some 3:=by kernel_rfl
@[simp] theorem Tryz.ps30:psize Tryz.prog 30=some 1:=by kernel_rfl
@[simp] theorem Tryz.ps32:psize Tryz.prog 32=some 1:=by kernel_rfl
@[simp] theorem Tryz.ps33:psize Tryz.prog 33=some 1:=by kernel_rfl
@[simp] theorem Tryz.ps34:psize Tryz.prog 34=some 1:=by kernel_rfl
@[simp] theorem Tryz.ps36:psize Tryz.prog 36=some 4:=by kernel_rfl
@[simp] theorem Tryz.pz36:pzero Tryz.prog 36=some (.agg [.str [],.slice 0 [] .full,.slice 0 [] .full,.slice 0 [] .full]):=by kernel_rfl
@[simp] theorem Tryz.ps63:psize Tryz.prog 63=some 2:=by kernel_rfl
@[simp] theorem Tryz.pz63:pzero Tryz.prog 63=some (.agg [.int .i64 0,.int .i64 0]):=by kernel_rfl
@[simp] theorem Tryz.ps64:psize Tryz.prog 64=some 1:=by kernel_rfl
@[simp] theorem Tryz.ps66:psize Tryz.prog 66=some 6:=by kernel_rfl
@[simp] theorem Tryz.pz66:pzero Tryz.prog 66=some (.agg [.str [],.str [],.int .i64 0,.int .i64 0,.int .i64 0,.slice 0 [] .full]):=by kernel_rfl
@[simp] theorem Tryz.pe66:pelem Tryz.prog 66=some (6,80):=by kernel_rfl
@[simp] theorem Tryz.ps68:psize Tryz.prog 68=some 2:=by kernel_rfl
@[simp] theorem Tryz.pz68:pzero Tryz.prog 68=some (.agg [.int .i64 0,.int .i64 0]):=by kernel_rfl
@[simp] theorem Tryz.ps69:psize Tryz.prog 69=some 1:=by kernel_rfl
@[simp] theorem Tryz.ps71:psize Tryz.prog 71=some 5:=by kernel_rfl
@[simp] theorem Tryz.pz71:pzero Tryz.prog 71=some (.agg [.str [],.bool false,.int .i64 0,.int .i64 0,.slice 0 [] .full]):=by kernel_rfl
@[simp] theorem Tryz.ps72:psize Tryz.prog 72=some 1:=by kernel_rfl
@[simp] theorem Tryz.ps74:psize Tryz.prog 74=some 4:=by kernel_rfl
@[simp] theorem Tryz.pz74:pzero Tryz.prog 74=some (.agg [.str [],.int .i64 0,.int .i64 0,.slice 0 [] .full]):=by kernel_rfl
@[simp] theorem Tryz.ps76:psize Tryz.prog 76=some 5:=by kernel_rfl
@[simp] theorem Tryz.pz76:pzero Tryz.prog 76=some (.agg [.str [],.int .i64 0,.int .i64 0,.int .i64 0,.bool false]):=by kernel_rfl
@[simp] theorem Tryz.ps83:psize Tryz.prog 83=some 1:=by kernel_rfl
@[simp] theorem Tryz.ps85:psize Tryz.prog 85=some 4:=by kernel_rfl
@[simp] theorem Tryz.pz85:pzero Tryz.prog 85=some (.agg [.int .u8 0,.int .u8 0,.bool false,.slice 0 [] .full]):=by kernel_rfl
@[simp] theorem Tryz.ps92:psize Tryz.prog 92=some 1:=by kernel_rfl
@[simp] theorem Tryz.ps93:psize Tryz.prog 93=some 5:=by kernel_rfl
@[simp] theorem Tryz.ps95:psize Tryz.prog 95=some 9:=by kernel_rfl
@[simp] theorem Tryz.ps98:psize Tryz.prog 98=some 4:=by kernel_rfl
@[simp] theorem Tryz.ps100:psize Tryz.prog 100=some 4:=by kernel_rfl
@[simp] theorem Tryz.pz100:pzero Tryz.prog 100=some (.agg [.int .u8 0,.int .u8 0,.int .i8 0,.bool false]):=by kernel_rfl
@[simp] theorem Tryz.ps102:psize Tryz.prog 102=some 2:=by kernel_rfl
@[simp] theorem Tryz.pz102:pzero Tryz.prog 102=some (.agg [.slice 0 [] .full,.bool false]):=by kernel_rfl
@[simp] theorem Tryz.ps110:psize Tryz.prog 110=some 1:=by kernel_rfl
@[simp] theorem Tryz.ps112:psize Tryz.prog 112=some 3:=by kernel_rfl
@[simp] theorem Tryz.pz112:pzero Tryz.prog 112=some (.agg [.int .i64 0,.int .i64 0,.slice 0 [] .full]):=by kernel_rfl
@[simp] theorem Tryz.ps115:psize Tryz.prog 115=some 2:=by kernel_rfl
@[simp] theorem Tryz.pz115:pzero Tryz.prog 115=some (.agg [.int .i64 0,.int .i64 0]):=by kernel_rfl
@[simp] theorem Tryz.ps148:psize Tryz.prog 148=some 1:=by kernel_rfl
@[simp] theorem Tryz.pz148:pzero Tryz.prog 148=some (.int .u64 0):=by kernel_rfl
@[simp] theorem Tryz.pe148:pelem Tryz.prog 148=some (1,8):=by kernel_rfl
@[simp] theorem Tryz.ps170:psize Tryz.prog 170=some 3:=by kernel_rfl
@[simp] theorem Tryz.pz170:pzero Tryz.prog 170=some (.agg [.slice 0 [] .full,.int .i64 0,.int .i64 0]):=by kernel_rfl
attribute [simp] Tryz.underlying1 Tryz.underlying2 Tryz.underlying3 Tryz.underlying4 Tryz.underlying5 Tryz.underlying6 Tryz.underlying7 Tryz.underlying8 Tryz.underlying9 Tryz.underlying10 Tryz.underlying11 Tryz.underlying12 Tryz.underlying13 Tryz.underlying14 Tryz.underlying15 Tryz.underlying16 Tryz.underlying17 Tryz.underlying18 Tryz.underlying19 Tryz.underlying20 Tryz.underlying21 Tryz.underlying22 Tryz.underlying23 Tryz.underlying24 Tryz.underlying25 Tryz.underlying26 Tryz.underlying27 Tryz.underlying28 Tryz.underlying29 Tryz.underlying30 Tryz.underlying31 Tryz.underlying32 Tryz.underlying33 Tryz.underlying34 Tryz.underlying35 Tryz.underlying36 Tryz.underlying37 Tryz.underlying38 Tryz.underlying40 Tryz.underlying41 Tryz.underlying42 Tryz.underlying43 Tryz.underlying44 Tryz.underlying45 Tryz.underlying46 Tryz.underlying47 Tryz.underlying49 Tryz.underlying50 Tryz.underlying52 Tryz.underlying53 Tryz.underlying54 Tryz.underlying55 Tryz.underlying56 Tryz.underlying57 Tryz.underlying58 Tryz.underlying59 Tryz.underlying60 Tryz.underlying61 Tryz.underlying62 Tryz.underlying63 Tryz.underlying64 Tryz.underlying65 Tryz.underlying66 Tryz.underlying67 Tryz.underlying68 Tryz.underlying69 Tryz.underlying70 Tryz.underlying71 Tryz.underlying72 Tryz.underlying73 Tryz.underlying74 Tryz.underlying75 Tryz.underlying76 Tryz.underlying77 Tryz.underlying78 Tryz.underlying79 Tryz.underlying80 Tryz.underlying81 Tryz.underlying82 Tryz.underlying83 Tryz.underlying84 Tryz.underlying85 Tryz.underlying86 Tryz.underlying87 Tryz.underlying88 Tryz.underlying89 Tryz.underlying90 Tryz.underlying91 Tryz.underlying92 Tryz.underlying93 Tryz.underlying94 Tryz.underlying95 Tryz.underlying96 Tryz.underlying97 Tryz.underlying98 Tryz.underlying99 Tryz.underlying100 Tryz.underlying101 Tryz.underlying102 Tryz.underlying103 Tryz.underlying104 Tryz.underlying105 Tryz.underlying106 Tryz.underlying107 Tryz.underlying108 Tryz.underlying109 Tryz.underlying110 Tryz.underlying111 Tryz.underlying112 Tryz.underlying113 Tryz.underlying114 Tryz.underlying115 Tryz.underlying116 Tryz.underlying117 Tryz.underlying118 Tryz.underlying119 Tryz.underlying120 Tryz.underlying121 Tryz.underlying122 Tryz.underlying123 Tryz.underlying124 Tryz.underlying125 Tryz.underlying126 Tryz.underlying127 Tryz.underlying128 Tryz.underlying129 Tryz.underlying130 Tryz.underlying131 Tryz.underlying132 Tryz.underlying133 Tryz.underlying134 Tryz.underlying135 Tryz.underlying136 Tryz.underlying137 Tryz.underlying138 Tryz.underlying139 Tryz.underlying140 Tryz.underlying141 Tryz.underlying142 Tryz.underlying143 Tryz.underlying144 Tryz.underlying145 Tryz.underlying146 Tryz.underlying147 Tryz.underlying148 Tryz.underlying149 Tryz.underlying150 Tryz.underlying151 Tryz.underlying152 Tryz.underlying154 Tryz.underlying155 Tryz.underlying156 Tryz.underlying157 Tryz.underlying158 Tryz.underlying159 Tryz.underlying160 Tryz.underlying161 Tryz.underlying162 Tryz.underlying163 Tryz.underlying164 Tryz.underlying165 Tryz.underlying166 Tryz.underlying167 Tryz.underlying168 Tryz.underlying169 Tryz.underlying170 Tryz.underlying171 Tryz.underlying172 Tryz.underlying173 Tryz.underlying174 Tryz.underlying175 Tryz.underlying176 Tryz.underlying177 Tryz.underlying178 Tryz.underlying179 Tryz.underlying180 Tryz.underlying181 Tryz.underlying182 Tryz.underlying183 Tryz.underlying184 Tryz.underlying185 Tryz.underlying186 Tryz.underlying187 Tryz.underlying188 Tryz.underlying189 Tryz.underlying190 Tryz.underlying191 Tryz.underlying192 Tryz.underlying193 Tryz.underlying194 Tryz.underlying195 Tryz.underlying196 Tryz.underlying197 Tryz.underlying198 Tryz.underlying200 Tryz.underlying202 Tryz.underlying203 Tryz.underlying204 Tryz.underlying205 Tryz.underlying206 Tryz.underlying207 Tryz.underlying208 Tryz.underlying209 Tryz.underlying210 Tryz.underlying211 Tryz.underlying212 Tryz.underlying213 Tryz.underlying214 Tryz.underlying215 Tryz.underlying216 Tryz.underlying217 Tryz.underlying218 Tryz.underlying219 Tryz.underlying220 Tryz.underlying222 Tryz.underlying223 Tryz.underlying224 Tryz.underlying225 Tryz.underlying226 Tryz.underlying227 Tryz.underlying228 Tryz.underlying229 Tryz.underlying230 Tryz.underlying231 Tryz.underlying232 Tryz.underlying233 Tryz.underlying234 Tryz.underlying235 Tryz.underlying236 Tryz.underlying237 Tryz.underlying238 Tryz.underlying239 Tryz.underlying240 Tryz.underlying241 Tryz.underlying242 Tryz.underlying243 Tryz.underlying244 Tryz.underlying245 Tryz.underlying246 Tryz.underlying247 Tryz.underlying248 Tryz.underlying250 Tryz.underlying251 Tryz.underlying252 Tryz.underlying253 Tryz.underlying254 Tryz.underlying255 Tryz.underlying257 Tryz.underlying258 Tryz.underlying259 Tryz.underlying260 Tryz.underlying261 Tryz.underlying262 Tryz.underlying263 Tryz.underlying264 Tryz.underlying265 Tryz.underlying266 Tryz.underlying267 Tryz.underlying268 Tryz.underlying269 Tryz.underlying270 Tryz.underlying271 Tryz.underlying272 Tryz.underlying273 Tryz.underlying274 Tryz.underlying275 Tryz.underlying276 Tryz.underlying277 Tryz.underlying278 Tryz.underlying280 Tryz.underlying281 Tryz.underlying282 Tryz.underlying283 Tryz.underlying284 Tryz.underlying286 Tryz.underlying287 Tryz.underlying288 Tryz.underlying289 Tryz.underlying290 Tryz.underlying291 Tryz.underlying292 Tryz.underlying293 Tryz.underlying294 Tryz.underlying295 Tryz.underlying297 Tryz.underlying298 Tryz.underlying299 Tryz.underlying301 Tryz.underlying303 Tryz.underlying304 Tryz.underlying305 Tryz.underlying306 Tryz.underlying307 Tryz.underlying308 Tryz.underlying309 Tryz.underlying310 Tryz.underlying311 Tryz.underlying312 Tryz.underlying313 Tryz.underlying314 Tryz.underlying315 Tryz.underlying316 Tryz.underlying317 Tryz.underlying318 Tryz.underlying319 Tryz.underlying320 Tryz.underlying321 Tryz.underlying322 Tryz.underlying323
end Go.Kz

namespace Go.Kz
open Go Go.Proofs
set_option maxRecDepth 10000
theorem Tryz.eg46:Tryz.prog.eqGuardType Tryz.prog.depth 46=false:=by kernel_rfl
theorem Tryz.pl46:pplan Tryz.prog 12 46=some [.i .u8,.i .u8]:=by kernel_rfl
theorem Tryz.pa46:pagg Tryz.prog 46=some true:=by kernel_rfl
@[simp] theorem Tryz.eq46 {a0 b0:Int} {a1 b1:Int}:pbin Tryz.prog .eql 46 (.agg [.int .u8 a0,.int .u8 a1]) (.agg [.int .u8 b0,.int .u8 b1])=some (.bool (decide (a0=b0)&&(decide (a1=b1)&&true))):=pbin_eql_plan Tryz.eg46 Tryz.pl46 Tryz.pa46 rfl
@[simp] theorem Tryz.ne46 {a0 b0:Int} {a1 b1:Int}:pbin Tryz.prog .neq 46 (.agg [.int .u8 a0,.int .u8 a1]) (.agg [.int .u8 b0,.int .u8 b1])=some (.bool (!(decide (a0=b0)&&(decide (a1=b1)&&true)))):=pbin_neq_plan Tryz.eg46 Tryz.pl46 Tryz.pa46 rfl
theorem Tryz.eg63:Tryz.prog.eqGuardType Tryz.prog.depth 63=false:=by kernel_rfl
theorem Tryz.pl63:pplan Tryz.prog 12 63=some [.i .i64,.i .i64]:=by kernel_rfl
theorem Tryz.pa63:pagg Tryz.prog 63=some true:=by kernel_rfl
@[simp] theorem Tryz.eq63 {a0 b0:Int} {a1 b1:Int}:pbin Tryz.prog .eql 63 (.agg [.int .i64 a0,.int .i64 a1]) (.agg [.int .i64 b0,.int .i64 b1])=some (.bool (decide (a0=b0)&&(decide (a1=b1)&&true))):=pbin_eql_plan Tryz.eg63 Tryz.pl63 Tryz.pa63 rfl
@[simp] theorem Tryz.ne63 {a0 b0:Int} {a1 b1:Int}:pbin Tryz.prog .neq 63 (.agg [.int .i64 a0,.int .i64 a1]) (.agg [.int .i64 b0,.int .i64 b1])=some (.bool (!(decide (a0=b0)&&(decide (a1=b1)&&true)))):=pbin_neq_plan Tryz.eg63 Tryz.pl63 Tryz.pa63 rfl
theorem Tryz.eg68:Tryz.prog.eqGuardType Tryz.prog.depth 68=false:=by kernel_rfl
theorem Tryz.pl68:pplan Tryz.prog 12 68=some [.i .i64,.i .i64]:=by kernel_rfl
theorem Tryz.pa68:pagg Tryz.prog 68=some true:=by kernel_rfl
@[simp] theorem Tryz.eq68 {a0 b0:Int} {a1 b1:Int}:pbin Tryz.prog .eql 68 (.agg [.int .i64 a0,.int .i64 a1]) (.agg [.int .i64 b0,.int .i64 b1])=some (.bool (decide (a0=b0)&&(decide (a1=b1)&&true))):=pbin_eql_plan Tryz.eg68 Tryz.pl68 Tryz.pa68 rfl
@[simp] theorem Tryz.ne68 {a0 b0:Int} {a1 b1:Int}:pbin Tryz.prog .neq 68 (.agg [.int .i64 a0,.int .i64 a1]) (.agg [.int .i64 b0,.int .i64 b1])=some (.bool (!(decide (a0=b0)&&(decide (a1=b1)&&true)))):=pbin_neq_plan Tryz.eg68 Tryz.pl68 Tryz.pa68 rfl
theorem Tryz.eg76:Tryz.prog.eqGuardType Tryz.prog.depth 76=false:=by kernel_rfl
theorem Tryz.pl76:pplan Tryz.prog 12 76=some [.s,.i .i64,.i .i64,.i .i64,.b]:=by kernel_rfl
theorem Tryz.pa76:pagg Tryz.prog 76=some true:=by kernel_rfl
@[simp] theorem Tryz.eq76 {a0 b0:List UInt8} {a1 b1:Int} {a2 b2:Int} {a3 b3:Int} {a4 b4:Bool}:pbin Tryz.prog .eql 76 (.agg [.str a0,.int .i64 a1,.int .i64 a2,.int .i64 a3,.bool a4]) (.agg [.str b0,.int .i64 b1,.int .i64 b2,.int .i64 b3,.bool b4])=some (.bool (decide (a0=b0)&&(decide (a1=b1)&&(decide (a2=b2)&&(decide (a3=b3)&&(decide (a4=b4)&&true)))))):=pbin_eql_plan Tryz.eg76 Tryz.pl76 Tryz.pa76 rfl
@[simp] theorem Tryz.ne76 {a0 b0:List UInt8} {a1 b1:Int} {a2 b2:Int} {a3 b3:Int} {a4 b4:Bool}:pbin Tryz.prog .neq 76 (.agg [.str a0,.int .i64 a1,.int .i64 a2,.int .i64 a3,.bool a4]) (.agg [.str b0,.int .i64 b1,.int .i64 b2,.int .i64 b3,.bool b4])=some (.bool (!(decide (a0=b0)&&(decide (a1=b1)&&(decide (a2=b2)&&(decide (a3=b3)&&(decide (a4=b4)&&true))))))):=pbin_neq_plan Tryz.eg76 Tryz.pl76 Tryz.pa76 rfl
theorem Tryz.eg93:Tryz.prog.eqGuardType Tryz.prog.depth 93=false:=by kernel_rfl
theorem Tryz.pl93:pplan Tryz.prog 12 93=some [.i .u8,.i .u8,.i .u8,.i .u8,.i .u8]:=by kernel_rfl
theorem Tryz.pa93:pagg Tryz.prog 93=some true:=by kernel_rfl
@[simp] theorem Tryz.eq93 {a0 b0:Int} {a1 b1:Int} {a2 b2:Int} {a3 b3:Int} {a4 b4:Int}:pbin Tryz.prog .eql 93 (.agg [.int .u8 a0,.int .u8 a1,.int .u8 a2,.int .u8 a3,.int .u8 a4]) (.agg [.int .u8 b0,.int .u8 b1,.int .u8 b2,.int .u8 b3,.int .u8 b4])=some (.bool (decide (a0=b0)&&(decide (a1=b1)&&(decide (a2=b2)&&(decide (a3=b3)&&(decide (a4=b4)&&true)))))):=pbin_eql_plan Tryz.eg93 Tryz.pl93 Tryz.pa93 rfl
@[simp] theorem Tryz.ne93 {a0 b0:Int} {a1 b1:Int} {a2 b2:Int} {a3 b3:Int} {a4 b4:Int}:pbin Tryz.prog .neq 93 (.agg [.int .u8 a0,.int .u8 a1,.int .u8 a2,.int .u8 a3,.int .u8 a4]) (.agg [.int .u8 b0,.int .u8 b1,.int .u8 b2,.int .u8 b3,.int .u8 b4])=some (.bool (!(decide (a0=b0)&&(decide (a1=b1)&&(decide (a2=b2)&&(decide (a3=b3)&&(decide (a4=b4)&&true))))))):=pbin_neq_plan Tryz.eg93 Tryz.pl93 Tryz.pa93 rfl
theorem Tryz.eg95:Tryz.prog.eqGuardType Tryz.prog.depth 95=false:=by kernel_rfl
theorem Tryz.pl95:pplan Tryz.prog 12 95=some [.i .u8,.i .u8,.i .i8,.i .u8,.i .u8,.i .u8,.i .u8,.i .u8,.i .u8]:=by kernel_rfl
theorem Tryz.pa95:pagg Tryz.prog 95=some true:=by kernel_rfl
@[simp] theorem Tryz.eq95 {a0 b0:Int} {a1 b1:Int} {a2 b2:Int} {a3 b3:Int} {a4 b4:Int} {a5 b5:Int} {a6 b6:Int} {a7 b7:Int} {a8 b8:Int}:pbin Tryz.prog .eql 95 (.agg [.int .u8 a0,.int .u8 a1,.int .i8 a2,.int .u8 a3,.int .u8 a4,.int .u8 a5,.int .u8 a6,.int .u8 a7,.int .u8 a8]) (.agg [.int .u8 b0,.int .u8 b1,.int .i8 b2,.int .u8 b3,.int .u8 b4,.int .u8 b5,.int .u8 b6,.int .u8 b7,.int .u8 b8])=some (.bool (decide (a0=b0)&&(decide (a1=b1)&&(decide (a2=b2)&&(decide (a3=b3)&&(decide (a4=b4)&&(decide (a5=b5)&&(decide (a6=b6)&&(decide (a7=b7)&&(decide (a8=b8)&&true)))))))))):=pbin_eql_plan Tryz.eg95 Tryz.pl95 Tryz.pa95 rfl
@[simp] theorem Tryz.ne95 {a0 b0:Int} {a1 b1:Int} {a2 b2:Int} {a3 b3:Int} {a4 b4:Int} {a5 b5:Int} {a6 b6:Int} {a7 b7:Int} {a8 b8:Int}:pbin Tryz.prog .neq 95 (.agg [.int .u8 a0,.int .u8 a1,.int .i8 a2,.int .u8 a3,.int .u8 a4,.int .u8 a5,.int .u8 a6,.int .u8 a7,.int .u8 a8]) (.agg [.int .u8 b0,.int .u8 b1,.int .i8 b2,.int .u8 b3,.int .u8 b4,.int .u8 b5,.int .u8 b6,.int .u8 b7,.int .u8 b8])=some (.bool (!(decide (a0=b0)&&(decide (a1=b1)&&(decide (a2=b2)&&(decide (a3=b3)&&(decide (a4=b4)&&(decide (a5=b5)&&(decide (a6=b6)&&(decide (a7=b7)&&(decide (a8=b8)&&true))))))))))):=pbin_neq_plan Tryz.eg95 Tryz.pl95 Tryz.pa95 rfl
theorem Tryz.eg98:Tryz.prog.eqGuardType Tryz.prog.depth 98=false:=by kernel_rfl
theorem Tryz.pl98:pplan Tryz.prog 12 98=some [.i .u8,.i .u8,.i .u8,.i .u8]:=by kernel_rfl
theorem Tryz.pa98:pagg Tryz.prog 98=some true:=by kernel_rfl
@[simp] theorem Tryz.eq98 {a0 b0:Int} {a1 b1:Int} {a2 b2:Int} {a3 b3:Int}:pbin Tryz.prog .eql 98 (.agg [.int .u8 a0,.int .u8 a1,.int .u8 a2,.int .u8 a3]) (.agg [.int .u8 b0,.int .u8 b1,.int .u8 b2,.int .u8 b3])=some (.bool (decide (a0=b0)&&(decide (a1=b1)&&(decide (a2=b2)&&(decide (a3=b3)&&true))))):=pbin_eql_plan Tryz.eg98 Tryz.pl98 Tryz.pa98 rfl
@[simp] theorem Tryz.ne98 {a0 b0:Int} {a1 b1:Int} {a2 b2:Int} {a3 b3:Int}:pbin Tryz.prog .neq 98 (.agg [.int .u8 a0,.int .u8 a1,.int .u8 a2,.int .u8 a3]) (.agg [.int .u8 b0,.int .u8 b1,.int .u8 b2,.int .u8 b3])=some (.bool (!(decide (a0=b0)&&(decide (a1=b1)&&(decide (a2=b2)&&(decide (a3=b3)&&true)))))):=pbin_neq_plan Tryz.eg98 Tryz.pl98 Tryz.pa98 rfl
theorem Tryz.eg100:Tryz.prog.eqGuardType Tryz.prog.depth 100=false:=by kernel_rfl
theorem Tryz.pl100:pplan Tryz.prog 12 100=some [.i .u8,.i .u8,.i .i8,.b]:=by kernel_rfl
theorem Tryz.pa100:pagg Tryz.prog 100=some true:=by kernel_rfl
@[simp] theorem Tryz.eq100 {a0 b0:Int} {a1 b1:Int} {a2 b2:Int} {a3 b3:Bool}:pbin Tryz.prog .eql 100 (.agg [.int .u8 a0,.int .u8 a1,.int .i8 a2,.bool a3]) (.agg [.int .u8 b0,.int .u8 b1,.int .i8 b2,.bool b3])=some (.bool (decide (a0=b0)&&(decide (a1=b1)&&(decide (a2=b2)&&(decide (a3=b3)&&true))))):=pbin_eql_plan Tryz.eg100 Tryz.pl100 Tryz.pa100 rfl
@[simp] theorem Tryz.ne100 {a0 b0:Int} {a1 b1:Int} {a2 b2:Int} {a3 b3:Bool}:pbin Tryz.prog .neq 100 (.agg [.int .u8 a0,.int .u8 a1,.int .i8 a2,.bool a3]) (.agg [.int .u8 b0,.int .u8 b1,.int .i8 b2,.bool b3])=some (.bool (!(decide (a0=b0)&&(decide (a1=b1)&&(decide (a2=b2)&&(decide (a3=b3)&&true)))))):=pbin_neq_plan Tryz.eg100 Tryz.pl100 Tryz.pa100 rfl
theorem Tryz.eg115:Tryz.prog.eqGuardType Tryz.prog.depth 115=false:=by kernel_rfl
theorem Tryz.pl115:pplan Tryz.prog 12 115=some [.i .i64,.i .i64]:=by kernel_rfl
theorem Tryz.pa115:pagg Tryz.prog 115=some true:=by kernel_rfl
@[simp] theorem Tryz.eq115 {a0 b0:Int} {a1 b1:Int}:pbin Tryz.prog .eql 115 (.agg [.int .i64 a0,.int .i64 a1]) (.agg [.int .i64 b0,.int .i64 b1])=some (.bool (decide (a0=b0)&&(decide (a1=b1)&&true))):=pbin_eql_plan Tryz.eg115 Tryz.pl115 Tryz.pa115 rfl
@[simp] theorem Tryz.ne115 {a0 b0:Int} {a1 b1:Int}:pbin Tryz.prog .neq 115 (.agg [.int .i64 a0,.int .i64 a1]) (.agg [.int .i64 b0,.int .i64 b1])=some (.bool (!(decide (a0=b0)&&(decide (a1=b1)&&true)))):=pbin_neq_plan Tryz.eg115 Tryz.pl115 Tryz.pa115 rfl
end Go.Kz

namespace Go.Kz
open Go Go.Proofs
noncomputable def Cl0:PExt:=fun _=>none
theorem Cl0_ok {P:Program}:ExtOk P Cl0:=fun _ hg=>by cases hg
theorem fol:Tryz.prog.follows .mixedOrders=true:=by kernel_rfl
noncomputable def Cl1:PExt:=Cl0.add 18 (gClone Tryz.prog 30 1)
theorem Cl1_ok:ExtOk Tryz.prog Cl1:=Cl0_ok.addClone fol 30 1 5 rfl (by kernel_rfl) (by kernel_rfl) (by kernel_rfl) (by intro fl σ n;kernel_rfl)
noncomputable def Cl2:PExt:=Cl1.add 89 (gClone Tryz.prog 64 1)
theorem Cl2_ok:ExtOk Tryz.prog Cl2:=Cl1_ok.addClone fol 64 1 3 rfl (by kernel_rfl) (by kernel_rfl) (by kernel_rfl) (by intro fl σ n;kernel_rfl)
noncomputable def Cl3:PExt:=Cl2.add 150 (gClone Tryz.prog 32 6)
theorem Cl3_ok:ExtOk Tryz.prog Cl3:=Cl2_ok.addClone fol 32 6 66 rfl (by kernel_rfl) (by kernel_rfl) (by kernel_rfl) (by intro fl σ n;kernel_rfl)
noncomputable def Cl4:PExt:=Cl3.add 151 (gClone Tryz.prog 33 5)
theorem Cl4_ok:ExtOk Tryz.prog Cl4:=Cl3_ok.addClone fol 33 5 71 rfl (by kernel_rfl) (by kernel_rfl) (by kernel_rfl) (by intro fl σ n;kernel_rfl)
noncomputable def Cl5:PExt:=Cl4.add 152 (gClone Tryz.prog 34 5)
theorem Cl5_ok:ExtOk Tryz.prog Cl5:=Cl4_ok.addClone fol 34 5 76 rfl (by kernel_rfl) (by kernel_rfl) (by kernel_rfl) (by intro fl σ n;kernel_rfl)
noncomputable def Cl6:PExt:=Cl5.add 158 (gClone Tryz.prog 69 4)
theorem Cl6_ok:ExtOk Tryz.prog Cl6:=Cl5_ok.addClone fol 69 4 74 rfl (by kernel_rfl) (by kernel_rfl) (by kernel_rfl) (by intro fl σ n;kernel_rfl)
noncomputable def Cl7:PExt:=Cl6.add 161 (gClone Tryz.prog 72 3)
theorem Cl7_ok:ExtOk Tryz.prog Cl7:=Cl6_ok.addClone fol 72 3 112 rfl (by kernel_rfl) (by kernel_rfl) (by kernel_rfl) (by intro fl σ n;kernel_rfl)
noncomputable def Cl8:PExt:=Cl7.add 162 (gClone Tryz.prog 110 2)
theorem Cl8_ok:ExtOk Tryz.prog Cl8:=Cl7_ok.addClone fol 110 2 115 rfl (by kernel_rfl) (by kernel_rfl) (by kernel_rfl) (by intro fl σ n;kernel_rfl)
noncomputable abbrev ClE:PExt:=Cl8
theorem ClE_ok:ExtOk Tryz.prog ClE:=Cl8_ok
end Go.Kz

namespace Go.Kz
noncomputable section
section
variable {β:Type}
def fNat (n:Nat) (k:Nat→β):β:=match n with | 0=>k 0 | m+1=>k (m+1)
theorem fNat_eq (n:Nat) (k:Nat→β):fNat n k=k n:=by cases n <;> rfl
def fInt (z:Int) (k:Int→β):β:=match z with | .ofNat n=>fNat n fun n=>k (.ofNat n) | .negSucc n=>fNat n fun n=>k (.negSucc n)
theorem fInt_eq (z:Int) (k:Int→β):fInt z k=k z:=by cases z <;> simp [fInt,fNat_eq]
def fByte (b:UInt8) (k:UInt8→β):β:=fNat b.toNat fun n=>k (UInt8.ofNat n)
theorem fByte_eq (b:UInt8) (k:UInt8→β):fByte b k=k b:=by simp [fByte,fNat_eq]
def fList {α:Type} (f:α→(α→β)→β) (l:List α):(List α→β)→β:=
 List.rec (motive:=fun _=>(List α→β)→β) (fun k=>k []) (fun x _ ih k=>f x fun x'=>ih fun xs'=>k (x'::xs')) l
theorem fList_eq {α:Type} {f:α→(α→β)→β} (hf:∀ x k,f x k=k x):∀ (l:List α) (k:List α→β),fList f l k=k l
 | [],_=>rfl
 | x::xs,k=>by
   show f x (fun x'=>fList f xs fun xs'=>k (x'::xs'))=_
   rw [hf,fList_eq hf xs]
def fBool (b:Bool) (k:Bool→β):β:=match b with | true=>k true | false=>k false
theorem fBool_eq (b:Bool) (k:Bool→β):fBool b k=k b:=by cases b <;> rfl
def fKind (x:IntKind) (k:IntKind→β):β:=match x with
 | .i8=>k .i8 | .i16=>k .i16 | .i32=>k .i32 | .i64=>k .i64 | .u8=>k .u8 | .u16=>k .u16 | .u32=>k .u32 | .u64=>k .u64
theorem fKind_eq (x:IntKind) (k:IntKind→β):fKind x k=k x:=by cases x <;> rfl
def fTok (t:Tok) (k:Tok→β):β:=match t with
 | .any=>k .any | .full=>k .full | .nil=>k .nil | .nul=>k .nul | .non=>k .non | .own id=>fNat id fun id=>k (.own id)
theorem fTok_eq (t:Tok) (k:Tok→β):fTok t k=k t:=by cases t <;> simp [fTok,fNat_eq]
def fPD:Nat→PD→(PD→β)→β
 | 0,p,k=>k p
 | n+1,p,k=>match p with
   | .bool b=>fBool b fun b=>k (.bool b)
   | .int x z=>fKind x fun x=>fInt z fun z=>k (.int x z)
   | .str l=>fList fByte l fun l=>k (.str l)
   | .agg cs=>fList (fPD n) cs fun cs=>k (.agg cs)
   | .slice s xs t=>fNat s fun s=>fList (fPD n) xs fun xs=>fTok t fun t=>k (.slice s xs t)
   | .ptr id off=>fNat id fun id=>fNat off fun off=>k (.ptr id off)
   | .eptr cs off=>fList (fPD n) cs fun cs=>fNat off fun off=>k (.eptr cs off)
   | .nilptr=>k .nilptr
   | .func f cs=>fNat f fun f=>fList (fPD n) cs fun cs=>k (.func f cs)
   | .mfunc f cs=>fNat f fun f=>fList (fPD n) cs fun cs=>k (.mfunc f cs)
   | .yield id=>fNat id fun id=>k (.yield id)
   | .nilfunc=>k .nilfunc
   | .opq v=>k (.opq v)
   | .typed t cs=>fNat t fun t=>fList (fPD n) cs fun cs=>k (.typed t cs)
   | .sref id off m sz=>fNat id fun id=>fNat off fun off=>fNat m fun m=>fNat sz fun sz=>k (.sref id off m sz)
   | .rref id v off m sz=>fNat id fun id=>fNat v fun v=>fNat off fun off=>fNat m fun m=>fNat sz fun sz=>k (.rref id v off m sz)
   | .rptr id v off=>fNat id fun id=>fNat v fun v=>fNat off fun off=>k (.rptr id v off)
   | .mref id=>fNat id fun id=>k (.mref id)
   | .iface t q=>fNat t fun t=>fPD n q fun q=>k (.iface t q)
   | .tup vs=>fList (fPD n) vs fun vs=>k (.tup vs)
theorem fPD_eq:∀ (n:Nat) (p:PD) (k:PD→β),fPD n p k=k p
 | 0,_,_=>rfl
 | n+1,p,k=>by
   have h:∀ (l:List PD) (k:List PD→β),fList (fPD n) l k=k l:=fList_eq (fPD_eq n)
   have hb:∀ (l:List UInt8) (k:List UInt8→β),fList fByte l k=k l:=fList_eq fByte_eq
   cases p <;> simp [fPD,fNat_eq,fInt_eq,fBool_eq,fKind_eq,fTok_eq,h,hb,fPD_eq n]
def fSpine {α:Type} (l:List α) (k:List α→β):β:=fList (fun x k=>k x) l k
theorem fSpine_eq {α:Type} (l:List α) (k:List α→β):fSpine l k=k l:=fList_eq (fun _ _=>rfl) l k
def fBox (p:PD) (k:PD→β):β:=match p with
 | .agg cs=>fSpine cs fun cs=>k (.agg cs)
 | .typed t cs=>fSpine cs fun cs=>k (.typed t cs)
 | p=>k p
theorem fBox_eq (p:PD) (k:PD→β):fBox p k=k p:=by cases p <;> simp [fBox,fSpine_eq]
def fObj (o:SObj) (k:SObj→β):β:=match o with
 | .none=>k .none
 | .box p=>fBox p fun p=>k (.box p)
 | .own e s n=>fNat e fun e=>fNat s fun s=>fNat n fun n=>k (.own e s n)
 | .row e s v cs=>fNat e fun e=>fNat s fun s=>fNat v fun v=>fSpine cs fun cs=>k (.row e s v cs)
 | .map es=>fSpine es fun es=>k (.map es)
 | .mark=>k .mark
 | .loop st fr ps a b=>fSpine fr fun fr=>k (.loop st fr ps a b)
theorem fObj_eq (o:SObj) (k:SObj→β):fObj o k=k o:=by cases o <;> simp [fObj,fBox_eq,fNat_eq,fSpine_eq]
def fStore (σ:List SObj) (k:List SObj→β):β:=fList fObj σ k
theorem fStore_eq (σ:List SObj) (k:List SObj→β):fStore σ k=k σ:=fList_eq fObj_eq σ k
def touch (p:PD) (k:PD→β):β:=match p with
 | .bool b=>fBool b fun b=>k (.bool b)
 | .int x z=>k (.int x z)
 | .str l=>k (.str l)
 | .agg cs=>k (.agg cs)
 | .slice s xs t=>k (.slice s xs t)
 | .ptr id off=>k (.ptr id off)
 | .eptr cs off=>k (.eptr cs off)
 | .nilptr=>k .nilptr
 | .func f cs=>k (.func f cs)
 | .mfunc f cs=>k (.mfunc f cs)
 | .yield id=>k (.yield id)
 | .nilfunc=>k .nilfunc
 | .opq v=>k (.opq v)
 | .typed t cs=>k (.typed t cs)
 | .sref id off m sz=>k (.sref id off m sz)
 | .rref id v off m sz=>k (.rref id v off m sz)
 | .rptr id v off=>k (.rptr id v off)
 | .mref id=>k (.mref id)
 | .iface t q=>k (.iface t q)
 | .tup vs=>k (.tup vs)
theorem touch_eq (p:PD) (k:PD→β):touch p k=k p:=by cases p <;> simp [touch,fBool_eq]
def fTop:Nat→PD→(PD→β)→β
 | 0,p,k=>touch p k
 | n+1,p,k=>match p with
   | .bool b=>fBool b fun b=>k (.bool b)
   | .int x z=>fKind x fun x=>fInt z fun z=>k (.int x z)
   | .str l=>fList fByte l fun l=>k (.str l)
   | .agg cs=>fList (fTop n) cs fun cs=>k (.agg cs)
   | .slice s xs t=>fNat s fun s=>fList (fTop n) xs fun xs=>fTok t fun t=>k (.slice s xs t)
   | .ptr id off=>fNat id fun id=>fNat off fun off=>k (.ptr id off)
   | .eptr cs off=>fSpine cs fun cs=>fNat off fun off=>k (.eptr cs off)
   | .func f cs=>fNat f fun f=>fList (fTop n) cs fun cs=>k (.func f cs)
   | .mfunc f cs=>fNat f fun f=>fList (fTop n) cs fun cs=>k (.mfunc f cs)
   | .sref id off m sz=>fNat id fun id=>fNat off fun off=>fNat m fun m=>fNat sz fun sz=>k (.sref id off m sz)
   | .rref id v off m sz=>fNat id fun id=>fNat v fun v=>fNat off fun off=>fNat m fun m=>fNat sz fun sz=>k (.rref id v off m sz)
   | .rptr id v off=>fNat id fun id=>fNat v fun v=>fNat off fun off=>k (.rptr id v off)
   | .mref id=>fNat id fun id=>k (.mref id)
   | .iface t q=>fNat t fun t=>fTop n q fun q=>k (.iface t q)
   | .tup vs=>fList (fTop n) vs fun vs=>k (.tup vs)
   | p=>k p
theorem fTop_eq:∀ (n:Nat) (p:PD) (k:PD→β),fTop n p k=k p
 | 0,p,k=>touch_eq p k
 | n+1,p,k=>by
   have h:∀ (l:List PD) (k:List PD→β),fList (fTop n) l k=k l:=fList_eq (fTop_eq n)
   have hb:∀ (l:List UInt8) (k:List UInt8→β),fList fByte l k=k l:=fList_eq fByte_eq
   cases p <;> simp [fTop,fNat_eq,fInt_eq,fBool_eq,fKind_eq,fTok_eq,h,hb,fTop_eq n,fSpine_eq]
def fAt (l:List SObj) (n:Nat):(List SObj→β)→β:=
 List.rec (motive:=fun _=>Nat→(List SObj→β)→β) (fun _ k=>k []) (fun x r ih n k=>Nat.rec (motive:=fun _=>β) (fObj x fun x=>k (x::r)) (fun n _=>ih n fun r=>k (x::r)) n) l n
theorem fAt_eq:∀ (l:List SObj) (n:Nat) (k:List SObj→β),fAt l n k=k l
 | [],_,_=>rfl
 | x::r,0,k=>by
   show fObj x (fun x=>k (x::r))=_
   rw [fObj_eq]
 | x::r,n+1,k=>by
   show fAt r n (fun r=>k (x::r))=_
   rw [fAt_eq r]
def handed (p:PD):Option Nat:=match p with
 | .ptr id _=>some id
 | .rptr id _ _=>some id
 | .sref id _ _ _=>some id
 | .rref id _ _ _ _=>some id
 | .mref id=>some id
 | .slice _ _ (.own id)=>some id
 | _=>none
def fMem (fr:List PD) (σ:List SObj) (op:Op) (p:PD) (σ':List SObj) (k:List SObj→β):β:=match op with
 | .load _ _=>k σ'
 | .lookup _ _ _ _=>k σ'
 | .buildSlice _ _ _=>k σ'
 | .store _ x _=>(match peval fr x with | some a=>(match handed a with | some id=>fAt σ' id k | none=>fStore σ' k) | none=>fStore σ' k)
 | .alloc _=>fAt σ' σ.length k
 | .box _ _=>fAt σ' σ.length k
 | .mapUpdate _ x _ _=>(match peval fr x with | some a=>(match handed a with | some id=>fAt σ' id k | none=>fStore σ' k) | none=>fStore σ' k)
 | .makeMap _ _=>fAt σ' σ.length k
 | .call { callee:=.builtin .append,.. }=>(match handed p with | some id=>fAt σ' id k | none=>k σ')
 | _=>fStore σ' k
theorem fMem_eq (fr:List PD) (σ:List SObj) (op:Op) (p:PD) (σ':List SObj) (k:List SObj→β):fMem fr σ op p σ' k=k σ':=by
 unfold fMem
 split <;> (try split) <;> (try split) <;> simp [fAt_eq,fStore_eq]
def setF (l:List PD) (n:Nat) (p:PD):(List PD→β)→β:=
 List.rec (motive:=fun _=>Nat→(List PD→β)→β) (fun _ k=>k []) (fun x r ih n k=>Nat.rec (motive:=fun _=>β) (k (p::r)) (fun n _=>ih n fun r=>k (x::r)) n) l n
theorem setF_eq:∀ (l:List PD) (n:Nat) (p:PD) (k:List PD→β),setF l n p k=k (l.set n p)
 | [],_,_,_=>rfl
 | _::_,0,_,_=>rfl
 | x::r,n+1,p,k=>by
   show setF r n p (fun r=>k (x::r))=_
   rw [setF_eq r];rfl
def putF (fr:List PD) (dst:Option Tmp) (p:PD) (k:List PD→β):β:=match dst with
 | some d=>setF fr d p k
 | none=>k fr
theorem putF_eq (fr:List PD) (dst:Option Tmp) (p:PD) (k:List PD→β):putF fr dst p k=k (pput fr dst p):=by cases dst <;> simp [putF,pput,setF_eq]
def fLeft (r:Option (PD×List SObj)) (k:PD→List SObj→β) (d:β):β:=match r with
 | some (p,σ)=>fPD 30 p fun p=>fStore σ fun σ=>k p σ
 | none=>d
theorem fLeft_eq (r:Option (PD×List SObj)) (k:PD→List SObj→β) (d:β):fLeft r k d=match r with | some (p,σ)=>k p σ | none=>d:=by
 cases r with
 | none=>rfl
 | some x=>obtain ⟨p,σ⟩:=x;simp [fLeft,fPD_eq,fStore_eq]
end
variable {P:Program} {E:PExt}
def passes:Op→Bool
 | .move _ | .assign _ | .pick _ _ _ | .extract _ _ | .load _ _=>true
 | _=>false
def fVal {β:Type} (op:Op) (p:PD) (k:PD→β):β:=if passes op then touch p k else fTop 3 p k
theorem fVal_eq {β:Type} (op:Op) (p:PD) (k:PD→β):fVal op p k=k p:=by unfold fVal;split <;> simp [touch_eq,fTop_eq]
def pstepF {β:Type} (P:Program) (call:PCall) (fl:Nat) (fr:List PD) (σ:List SObj) (op:Op) (k:PD→List SObj→β) (d:β):β:=
 match pcallee fr op with
 | some (tg,args)=>fList touch args fun args=>(match call fl tg args σ with
   | some (p,σ)=>k p σ
   | none=>d)
 | none=>match pval P fr op with
   | some p=>fVal op p fun p=>k p σ
   | none=>match pmem P fl fr σ op with
     | some (p,σ')=>fVal op p fun p=>fMem fr σ op p σ' fun σ'=>k p σ'
     | none=>d
theorem pstepF_eq {β:Type} (call:PCall) (fl:Nat) (fr:List PD) (σ:List SObj) (op:Op) (k:PD→List SObj→β) (d:β):pstepF P call fl fr σ op k d=match pstep P call fl fr σ op with | some (p,σ)=>k p σ | none=>d:=by
 unfold pstepF pstep
 cases pcallee fr op with
 | some x=>obtain ⟨tg,args⟩:=x;simp only [fList_eq touch_eq]
 | none=>
   simp only [pop]
   cases pval P fr op with
   | some p=>simp [fVal_eq]
   | none=>
     cases pmem P fl fr σ op with
     | none=>rfl
     | some x=>obtain ⟨p,σ'⟩:=x;simp [fVal_eq,fMem_eq]
def pseqF (P:Program) (call:PCall) (fl:Nat) (ops:Array Oper) (l:List Oper):List PD→List SObj→Option (List PD×List SObj):=
 List.rec (motive:=fun _=>List PD→List SObj→Option (List PD×List SObj)) (fun fr σ=>some (fr,σ))
  (fun o _ ih fr σ=>if Region.wanted o (pyield ops fr) then pstepF P call fl fr σ o.op (fun p σ'=>putF fr o.dst p fun fr=>ih fr σ') none
   else putF fr o.dst (.tup []) fun fr=>ih fr σ) l
theorem pseqF_eq (call:PCall) (fl:Nat) (ops:Array Oper):∀ (l:List Oper) (fr:List PD) (σ:List SObj),pseqF P call fl ops l fr σ=pseq P call fl ops l fr σ
 | [],_,_=>rfl
 | o::rest,fr,σ=>by
   show (if Region.wanted o (pyield ops fr) then pstepF P call fl fr σ o.op (fun p σ'=>putF fr o.dst p fun fr=>pseqF P call fl ops rest fr σ') none
    else putF fr o.dst (.tup []) fun fr=>pseqF P call fl ops rest fr σ)=_
   unfold pseq
   split
   ·rw [pstepF_eq]
    cases pstep P call fl fr σ o.op with
    | none=>rfl
    | some x=>obtain ⟨p,σ'⟩:=x;simp only [putF_eq,pseqF_eq call fl ops rest]
   ·simp only [putF_eq,pseqF_eq call fl ops rest]
def pregionF (P:Program) (call:PCall) (fl:Nat) (ops:Array Oper) (fr:List PD) (σ:List SObj):Option (List PD×List SObj):=
 match pseqF P call fl ops ops.toList fr σ with
 | some x=>some x
 | none=>ppairs P call fl ops ops.toList fr σ
theorem pregionF_eq (call:PCall) (fl:Nat) (ops:Array Oper) (fr:List PD) (σ:List SObj):pregionF P call fl ops fr σ=pregion P call fl ops fr σ:=by
 unfold pregionF pregion
 rw [pseqF_eq]
 rfl
def pdopF {β:Type} (P:Program) (call:PCall) (fl:Nat) (free:Bool) (i:Nat) (fr:List PD) (σ:List SObj) (op:Op) (k:PD→List SObj→β) (d:β):β:=
 if shapeA op then (match pval P fr op with | some p=>fVal op p fun p=>k p σ | none=>d)
 else if shapeAlloc op then fNat i fun i=>k (.ptr i 0) σ
 else if shapeMove op&&!free then pstepF P call (max fl σ.length) fr σ op (fun p σ'=>fStore (σ++σ'.drop σ.length) fun σ'=>k p σ') d
 else if shapeMove op then pstepF P call fl fr σ op k d
 else match pmem P fl fr σ op with
  | some (p,σ')=>fVal op p fun p=>fMem fr σ op p σ' fun σ'=>k p σ'
  | none=>d
theorem pdopF_eq {β:Type} (call:PCall) (fl:Nat) (free:Bool) (i:Nat) (fr:List PD) (σ:List SObj) (op:Op) (k:PD→List SObj→β) (d:β):pdopF P call fl free i fr σ op k d=match pdop P call fl free i fr σ op with | some (p,σ)=>k p σ | none=>d:=by
 unfold pdopF pdop
 split
 ·cases pval P fr op <;> simp [fVal_eq]
 ·split
  ·simp [fNat_eq]
  ·split
   ·rw [pstepF_eq]
    cases pstep P call (max fl σ.length) fr σ op with
    | none=>rfl
    | some x=>obtain ⟨p,σ'⟩:=x;simp [fStore_eq]
   ·split
    ·rw [pstepF_eq]
    ·cases pmem P fl fr σ op with
     | none=>rfl
     | some x=>obtain ⟨p,σ'⟩:=x;simp [fVal_eq,fMem_eq]
def pdrawOpsF (P:Program) (call:PCall) (fl:Nat) (ops:Array Oper) (ms:List Nat):Nat→Nat→List Oper→List PD→List SObj→List (Option Nat)→Option (List (Option Nat)×List PD×List SObj)
 | _,_,[],fr,σ,ft=>some (ft.reverse,fr,σ)
 | i,k,o::rest,fr,σ,ft=>
   if Region.wanted o (pyield ops fr) then
    pdopF P call fl (noLoose ops.toList ms i) k fr σ o.op (fun p σ'=>putF fr o.dst p fun fr'=>pdrawOpsF P call fl ops ms (i+1) (if shapeAlloc o.op then k+1 else k) rest fr' σ' (pfoot fr o.op::ft)) none
   else putF fr o.dst (.tup []) fun fr'=>pdrawOpsF P call fl ops ms (i+1) (if shapeAlloc o.op then k+1 else k) rest fr' σ (none::ft)
theorem pdrawOpsF_eq (call:PCall) (fl:Nat) (ops:Array Oper) (ms:List Nat):∀ (l:List Oper) (i k:Nat) (fr:List PD) (σ:List SObj) (ft:List (Option Nat)),
  pdrawOpsF P call fl ops ms i k l fr σ ft=match pdrawOps P call fl ops ms i k l fr σ with | some (tr,fr',σ')=>some (ft.reverse++tr.map TE.foot,fr',σ') | none=>none
 | [],i,k,fr,σ,ft=>by simp [pdrawOpsF,pdrawOps]
 | o::rest,i,k,fr,σ,ft=>by
   unfold pdrawOpsF pdrawOps
   simp only
   split
   ·rw [pdopF_eq]
    cases pdop P call fl (noLoose ops.toList ms i) k fr σ o.op with
    | none=>rfl
    | some x=>
      obtain ⟨p,σ'⟩:=x
      simp only [putF_eq,pdrawOpsF_eq call fl ops ms rest]
      cases pdrawOps P call fl ops ms (i+1) (if shapeAlloc o.op=true then k+1 else k) rest (pput fr o.dst p) σ' with
      | none=>rfl
      | some y=>obtain ⟨tr,fr',σ''⟩:=y;simp
   ·simp only [putF_eq,pdrawOpsF_eq call fl ops ms rest]
    cases pdrawOps P call fl ops ms (i+1) (if shapeAlloc o.op=true then k+1 else k) rest (pput fr o.dst (.tup [])) σ with
    | none=>rfl
    | some y=>obtain ⟨tr,fr',σ''⟩:=y;simp
def footsF (ops:List Oper) (ms:List Nat) (ft:List (Option Nat)):Bool:=
 (List.range ops.length).all fun k=>!isAt shapeStore ops k||(List.range ops.length).all fun i=>!isAt shapeLoad ops i||!loose ms i k ||
  match (ft[i]?).bind id,(ft[k]?).bind id with
  | some a,some b=>a != b
  | _,_=>true
theorem footsF_eq (ops:List Oper) (ms:List Nat) (tr:List TE):footsF ops ms (tr.map TE.foot)=footsOk ops ms tr:=by
 have h:∀ i,((tr.map TE.foot)[i]?).bind id=(tr[i]?).bind TE.foot:=fun i=>by
  rw [List.getElem?_map]
  cases tr[i]? <;> rfl
 unfold footsF footsOk
 simp only [h]
 rfl
def frees (ops:Array Oper):List (Oper×Bool):=ops.toList.zipIdx.map fun x=>(x.1,noLoose ops.toList (masks ops.toList []) x.2)
def calm (ops:Array Oper):Bool:=regOk ops (masks ops.toList [])&&(List.range ops.toList.length).all fun k=>!isAt shapeStore ops.toList k||(List.range ops.toList.length).all fun i=>!isAt shapeLoad ops.toList i||!loose (masks ops.toList []) i k
def pdrawC (P:Program) (call:PCall) (fl:Nat) (ops:Array Oper) (l:List (Oper×Bool)):Nat→List PD→List SObj→Option (List PD×List SObj):=
 List.rec (motive:=fun _=>Nat→List PD→List SObj→Option (List PD×List SObj)) (fun _ fr σ=>some (fr,σ))
  (fun o _ ih k fr σ=>if Region.wanted o.1 (pyield ops fr) then pdopF P call fl o.2 k fr σ o.1.op (fun p σ'=>putF fr o.1.dst p fun fr'=>ih (if shapeAlloc o.1.op then k+1 else k) fr' σ') none
   else putF fr o.1.dst (.tup []) fun fr'=>ih (if shapeAlloc o.1.op then k+1 else k) fr' σ) l
theorem pdrawC_eq (call:PCall) (fl:Nat) (ops:Array Oper) (ms:List Nat):∀ (l:List Oper) (i k:Nat) (fr:List PD) (σ:List SObj),
  pdrawC P call fl ops ((l.zipIdx i).map fun x=>(x.1,noLoose ops.toList ms x.2)) k fr σ=match pdrawOps P call fl ops ms i k l fr σ with | some (_,fr',σ')=>some (fr',σ') | none=>none
 | [],i,k,fr,σ=>rfl
 | o::rest,i,k,fr,σ=>by
   show (if Region.wanted o (pyield ops fr) then pdopF P call fl (noLoose ops.toList ms i) k fr σ o.op (fun p σ'=>putF fr o.dst p fun fr'=>pdrawC P call fl ops ((rest.zipIdx (i+1)).map fun x=>(x.1,noLoose ops.toList ms x.2)) (if shapeAlloc o.op then k+1 else k) fr' σ') none
    else putF fr o.dst (.tup []) fun fr'=>pdrawC P call fl ops ((rest.zipIdx (i+1)).map fun x=>(x.1,noLoose ops.toList ms x.2)) (if shapeAlloc o.op then k+1 else k) fr' σ)=_
   unfold pdrawOps
   simp only
   split
   ·rw [pdopF_eq]
    cases pdop P call fl (noLoose ops.toList ms i) k fr σ o.op with
    | none=>rfl
    | some x=>
      obtain ⟨p,σ'⟩:=x
      simp only [putF_eq,pdrawC_eq call fl ops ms rest]
      cases pdrawOps P call fl ops ms (i+1) (if shapeAlloc o.op=true then k+1 else k) rest (pput fr o.dst p) σ' with
      | none=>rfl
      | some y=>rfl
   ·simp only [putF_eq,pdrawC_eq call fl ops ms rest]
    cases pdrawOps P call fl ops ms (i+1) (if shapeAlloc o.op=true then k+1 else k) rest (pput fr o.dst (.tup [])) σ with
    | none=>rfl
    | some y=>rfl
theorem calm_feet {ops:Array Oper} (h:calm ops=true) (tr:List TE):regOk ops (masks ops.toList [])=true∧footsOk ops.toList (masks ops.toList []) tr=true:=by
 simp only [calm,Bool.and_eq_true] at h
 refine ⟨h.1,?_⟩
 have h2:=h.2
 simp only [footsOk,List.all_eq_true,List.mem_range,Bool.or_eq_true] at h2 ⊢
 intro k hk
 rcases h2 k hk with h3 | h3
 ·exact .inl h3
 ·refine .inr fun i hi=>.inl ?_
  rcases h3 i hi with h4 | h4
  ·exact .inl h4
  ·exact .inr h4
def pdrawXF (P:Program) (call:PCall) (fl:Nat) (ops:Array Oper) (fr:List PD) (σ:List SObj):Option (List PD×List SObj):=
 if calm ops then
  match phoist P ops.toList with
  | some []=>(match pdrawC P call fl ops (frees ops) σ.length fr σ with
    | some x=>some x
    | none=>pdrawX P call fl ops fr σ)
  | some (h::hs)=>fStore (σ++h::hs) fun σ1=>(match pdrawC P call fl ops (frees ops) σ.length fr σ1 with
    | some x=>some x
    | none=>pdrawX P call fl ops fr σ)
  | none=>pdrawX P call fl ops fr σ
 else if regOk ops (masks ops.toList []) then
  match phoist P ops.toList with
  | some hs=>fStore (σ++hs) fun σ1=>(match pdrawOpsF P call fl ops (masks ops.toList []) 0 σ.length ops.toList fr σ1 [] with
    | some (ft,fr',σ')=>if footsF ops.toList (masks ops.toList []) ft then some (fr',σ') else pdrawX P call fl ops fr σ
    | none=>pdrawX P call fl ops fr σ)
  | none=>pdrawX P call fl ops fr σ
 else pdrawX P call fl ops fr σ
theorem pdrawXF_calm (call:PCall) (fl:Nat) (ops:Array Oper) (fr:List PD) (σ hs:List SObj) (hc:calm ops=true) (hh:phoist P ops.toList=some hs) :
  (match pdrawC P call fl ops (frees ops) σ.length fr (σ++hs) with
   | some x=>some x
   | none=>pdrawX P call fl ops fr σ)=pdrawX P call fl ops fr σ:=by
 have he:=pdrawC_eq (P:=P) call fl ops (masks ops.toList []) ops.toList 0 σ.length fr (σ++hs)
 show (match pdrawC P call fl ops (ops.toList.zipIdx.map fun x=>(x.1,noLoose ops.toList (masks ops.toList []) x.2)) σ.length fr (σ++hs) with | some x=>some x | none=>_)=_
 rw [he]
 cases hd:pdrawOps P call fl ops (masks ops.toList []) 0 σ.length ops.toList fr (σ++hs) with
 | none=>rfl
 | some y=>
   obtain ⟨tr,fr',σ'⟩:=y
   obtain ⟨hr,hf⟩:=calm_feet hc tr
   have:pdraw P call fl ops fr σ=some (fr',σ'):=by
    unfold pdraw
    simp only [hr,if_true,hh,hd,hf]
   unfold pdrawX
   rw [this]
theorem pdrawXF_eq (call:PCall) (fl:Nat) (ops:Array Oper) (fr:List PD) (σ:List SObj):pdrawXF P call fl ops fr σ=pdrawX P call fl ops fr σ:=by
 unfold pdrawXF
 split
 ·rename_i hc
  split
  ·rename_i hh
   have:=pdrawXF_calm (P:=P) call fl ops fr σ [] hc hh
   rw [List.append_nil] at this
   exact this
  ·rename_i h hs hh
   rw [fStore_eq]
   exact pdrawXF_calm call fl ops fr σ (h::hs) hc hh
  ·rfl
 ·split
  ·rename_i hr
   split
   ·rename_i hs hh
    rw [fStore_eq,pdrawOpsF_eq]
    cases hd:pdrawOps P call fl ops (masks ops.toList []) 0 σ.length ops.toList fr (σ++hs) with
    | none=>rfl
    | some y=>
      obtain ⟨tr,fr',σ'⟩:=y
      simp only [List.reverse_nil,List.nil_append,footsF_eq]
      split
      ·rename_i hf
       have:pdraw P call fl ops fr σ=some (fr',σ'):=by
        unfold pdraw
        simp only [hr,if_true,hh,hd,hf]
       unfold pdrawX
       rw [this]
      ·rfl
   ·rfl
  ·rfl
def pbodyF (P:Program) (code:PCode) (fl:Nat) (f:FuncId) (args:List PD) (σ:List SObj):Option (PD×List SObj):=
 match P.funcs[f]? with
 | some fn=>match fn.body with
   | some c=>fSpine (args++List.replicate (fn.ntmps - args.length) (.tup [])) fun fr=>(match code none c fl fr [] σ with
     | some r=>(match pfinish P fl fn r with
       | some (p,σ)=>fTop 1 p fun p=>(match r.ms with
         | []=>some (p,σ)
         | _=>fStore σ fun σ=>some (p,σ))
       | none=>none)
     | none=>none)
   | none=>none
 | none=>none
theorem pbodyF_eq (code:PCode) (fl:Nat) (f:FuncId) (args:List PD) (σ:List SObj):pbodyF P code fl f args σ=pbody P code fl f args σ:=by
 unfold pbodyF pbody
 cases P.funcs[f]? with
 | none=>rfl
 | some fn=>
   simp only
   cases fn.body with
   | none=>rfl
   | some c=>
     simp only [fSpine_eq]
     cases code none c fl (args++List.replicate (fn.ntmps - args.length) (.tup [])) [] σ with
     | none=>rfl
     | some r=>
       simp only
       cases pfinish P fl fn r with
       | none=>rfl
       | some x=>
         obtain ⟨p,σ⟩:=x
         simp only [fTop_eq]
         split <;> simp [fStore_eq]
def pcallByF (P:Program) (E:PExt) (code:PCode):PCall
 | fl,.inl f,args,σ=>match E f with
   | some g=>fLeft (g fl args σ) (fun p σ=>some (p,σ)) none
   | none=>pbodyF P code fl f args σ
 | fl,.inr id,args,σ=>fLeft (pround code fl id args σ) (fun p σ=>some (p,σ)) none
theorem pcallByF_eq (code:PCode):pcallByF P E code=pcallBy P E code:=by
 have h:∀ r:Option (PD×List SObj),fLeft r (fun p σ=>some (p,σ)) none=r:=fun r=>by
  rw [fLeft_eq]
  cases r with
  | none=>rfl
  | some x=>rfl
 funext fl tg args σ
 cases tg with
 | inl f=>
   simp only [pcallByF,pcallBy]
   cases E f with
   | none=>exact pbodyF_eq code fl f args σ
   | some g=>exact h _
 | inr id=>exact h _
def pcodeF (P:Program) (E:PExt) (n:Nat):PCode:=
 Nat.rec (motive:=fun _=>PCode) (fun _ _ _ _ _ _=>none) (fun _ self rd c fl fr ms σ=>
  match c with
  | .skip=>some ⟨.normal,fr,ms,σ⟩
  | .region _ ops false=>match pregionF P (pcallByF P E self) fl ops fr σ with
    | some (fr',σ')=>some ⟨.normal,fr',ms,σ'⟩
    | none=>none
  | .region _ ops true=>match pdrawXF P (pcallByF P E self) fl ops fr σ with
    | some (fr',σ')=>some ⟨.normal,fr',ms,σ'⟩
    | none=>none
  | .seq x y=>match self rd x fl fr ms σ with
    | some ⟨.normal,fr',ms',σ'⟩=>self rd y fl fr' ms' σ'
    | r=>r
  | .cond g x y=>match peval fr g with
    | some (.bool true)=>self rd x fl fr ms σ
    | some (.bool false)=>self rd y fl fr ms σ
    | _=>none
  | .block id b=>match self rd b fl fr ms σ with
    | some ⟨.exit k,fr',ms',σ'⟩=>some ⟨if k=id then .normal else .exit k,fr',ms',σ'⟩
    | r=>r
  | .loop b=>match self rd b fl fr ms σ with
    | some ⟨.normal,fr',ms',σ'⟩=>self rd (.loop b) fl fr' ms' σ'
    | r=>r
  | .rangeFunc g ps assign body=>match peval fr g with
    | some (.func gf cap)=>prange (pcallByF P E self) rd gf cap ps.toList assign body fl fr ms σ
    | _=>none
  | .exit id=>some ⟨.exit id,fr,ms,σ⟩
  | .ret=>some ⟨.ret,fr,ms,σ⟩
  | _=>none) n
theorem pcodeF_succ (n:Nat):pcodeF P E (n+1)=fun rd c fl fr ms σ=>
  match c with
  | .skip=>some ⟨.normal,fr,ms,σ⟩
  | .region _ ops false=>match pregionF P (pcallByF P E (pcodeF P E n)) fl ops fr σ with
    | some (fr',σ')=>some ⟨.normal,fr',ms,σ'⟩
    | none=>none
  | .region _ ops true=>match pdrawXF P (pcallByF P E (pcodeF P E n)) fl ops fr σ with
    | some (fr',σ')=>some ⟨.normal,fr',ms,σ'⟩
    | none=>none
  | .seq x y=>match pcodeF P E n rd x fl fr ms σ with
    | some ⟨.normal,fr',ms',σ'⟩=>pcodeF P E n rd y fl fr' ms' σ'
    | r=>r
  | .cond g x y=>match peval fr g with
    | some (.bool true)=>pcodeF P E n rd x fl fr ms σ
    | some (.bool false)=>pcodeF P E n rd y fl fr ms σ
    | _=>none
  | .block id b=>match pcodeF P E n rd b fl fr ms σ with
    | some ⟨.exit k,fr',ms',σ'⟩=>some ⟨if k=id then .normal else .exit k,fr',ms',σ'⟩
    | r=>r
  | .loop b=>match pcodeF P E n rd b fl fr ms σ with
    | some ⟨.normal,fr',ms',σ'⟩=>pcodeF P E n rd (.loop b) fl fr' ms' σ'
    | r=>r
  | .rangeFunc g ps assign body=>match peval fr g with
    | some (.func gf cap)=>prange (pcallByF P E (pcodeF P E n)) rd gf cap ps.toList assign body fl fr ms σ
    | _=>none
  | .exit id=>some ⟨.exit id,fr,ms,σ⟩
  | .ret=>some ⟨.ret,fr,ms,σ⟩
  | _=>none:=rfl
theorem pcodeF_eq:∀ n,pcodeF P E n=pcode P E n
 | 0=>rfl
 | n+1=>by
   funext rd c fl fr ms σ
   have h1:∀ call fl ops fr σ,pregionF P call fl ops fr σ=pregion P call fl ops fr σ:=pregionF_eq
   have h2:∀ call fl ops fr σ,pdrawXF P call fl ops fr σ=pdrawX P call fl ops fr σ:=pdrawXF_eq
   rw [pcodeF_succ]
   unfold pcode
   rw [pcodeF_eq n,pcallByF_eq]
   simp only [h1,h2]
   cases c with
   | region id ops d=>cases d <;> rfl
   | _=>rfl
def pcallF (P:Program) (E:PExt) (n:Nat):PCall:=pcallByF P E (pcodeF P E n)
theorem pcallF_eq (n:Nat):pcallF P E n=pcall P E n:=by
 unfold pcallF pcall
 rw [pcodeF_eq,pcallByF_eq]
end
end Go.Kz

namespace Go.Kz
def bList {α:Type} (f:α→α→Bool):List α→List α→Bool
 | [],[]=>true
 | x::xs,y::ys=>f x y&&bList f xs ys
 | _,_=>false
theorem bList_eq {α:Type} {f:α→α→Bool} (hf:∀ x y,f x y=true→x=y):∀ xs ys:List α,bList f xs ys=true→xs=ys
 | [],[],_=>rfl
 | x::xs,y::ys,h=>by
   simp only [bList,Bool.and_eq_true] at h
   rw [hf x y h.1,bList_eq hf xs ys h.2]
 | [],_::_,h=>by simp [bList] at h
 | _::_,[],h=>by simp [bList] at h
def bTok:Tok→Tok→Bool
 | .any,.any=>true
 | .full,.full=>true
 | .nil,.nil=>true
 | .nul,.nul=>true
 | .non,.non=>true
 | .own a,.own b=>a==b
 | _,_=>false
theorem bTok_eq (a b:Tok) (h:bTok a b=true):a=b:=by
 cases a <;> cases b <;> simp [bTok] at h <;> first | rfl | (rw [h])
def bPD:Nat→PD→PD→Bool
 | 0,_,_=>false
 | n+1,p,q=>match p,q with
   | .bool a,.bool b=>a==b
   | .int j a,.int k b=>(j==k)&&(a==b)
   | .str a,.str b=>a==b
   | .agg a,.agg b=>bList (bPD n) a b
   | .slice s a t,.slice s' b t'=>(s==s')&&(bTok t t'&&bList (bPD n) a b)
   | .ptr i o,.ptr i' o'=>(i==i')&&(o==o')
   | .nilptr,.nilptr=>true
   | .func f a,.func g b=>(f==g)&&bList (bPD n) a b
   | .mfunc f a,.mfunc g b=>(f==g)&&bList (bPD n) a b
   | .nilfunc,.nilfunc=>true
   | .typed t a,.typed u b=>(t==u)&&bList (bPD n) a b
   | .sref i o m s,.sref i' o' m' s'=>(i==i')&&((o==o')&&((m==m')&&(s==s')))
   | .rref i v o m s,.rref i' v' o' m' s'=>(i==i')&&((v==v')&&((o==o')&&((m==m')&&(s==s'))))
   | .rptr i v o,.rptr i' v' o'=>(i==i')&&((v==v')&&(o==o'))
   | .mref i,.mref i'=>i==i'
   | .iface t a,.iface u b=>(t==u)&&bPD n a b
   | .tup a,.tup b=>bList (bPD n) a b
   | .opq .nilIface,.opq .nilIface=>true
   | .opq (.map none),.opq (.map none)=>true
   | _,_=>false
theorem bPD_eq:∀ (n:Nat) (p q:PD),bPD n p q=true→p=q
 | 0,_,_,h=>by simp [bPD] at h
 | n+1,p,q,h=>by
   have hl:∀ a b:List PD,bList (bPD n) a b=true→a=b:=bList_eq (bPD_eq n)
   unfold bPD at h
   split at h
   all_goals first
    | rfl
    | (cases h;done)
    | ((try simp only [Bool.and_eq_true,beq_iff_eq] at h)
       first
        | (rw [h])
        | (obtain ⟨rfl,rfl⟩:=h;rfl)
        | (rw [hl _ _ h])
        | (obtain ⟨rfl,h2,h3⟩:=h;rw [hl _ _ h3,bTok_eq _ _ h2])
        | (obtain ⟨rfl,h2⟩:=h;rw [hl _ _ h2])
        | (obtain ⟨rfl,rfl,rfl,rfl⟩:=h;rfl)
        | (obtain ⟨rfl,rfl,rfl,rfl,rfl⟩:=h;rfl)
        | (obtain ⟨rfl,rfl,rfl⟩:=h;rfl)
        | (obtain ⟨rfl,h2⟩:=h;rw [bPD_eq n _ _ h2]))
structure Crun where
 a:List PD
 s:List SObj
 p:PD
 s':List SObj
theorem ExtOk.addOnceF {P:Program} {E:PExt} (hE:ExtOk P E) (hP:P.follows .mixedOrders=true) {f:FuncId} {N:Nat} (h:(match pcallF P E N 0 (.inl f) [] [] with | some (.bool true,_)=>true | _=>false)=true) :
  ExtOk P (E.add f (entry (gf0 Em.bool (some true)))):=by
 rw [pcallF_eq] at h
 split at h
 ·rename_i σ1 hr
  exact hE.addOnce hP hr
 ·cases h
def gPures:List (List PD×PD)→List PD→Option PD
 | [],_=>none
 | r::rs,args=>if bList (bPD 40) (args.map PD.strip) r.1=true then some r.2 else gPures rs args
theorem gPures_some:∀ {rs:List (List PD×PD)} {args:List PD} {p:PD},gPures rs args=some p→∃ r∈rs,args.map PD.strip=r.1∧p=r.2
 | [],_,_,h=>by cases h
 | r::rs,args,p,h=>by
   unfold gPures at h
   split at h
   ·rename_i hc
    simp only [Option.some.injEq] at h
    exact ⟨r,by simp,bList_eq (bPD_eq 40) _ _ hc,h.symm⟩
   ·obtain ⟨r',hr,h'⟩:=gPures_some h
    exact ⟨r',by simp [hr],h'⟩
noncomputable def pureRun (P:Program) (E:PExt) (N:Nat) (f:FuncId) (r:List PD×PD):Bool:=
 PD.idfreeL r.1&&(match pcallF P E N 0 (.inl f) r.1 [] with
  | some (p1,σ1)=>(thaw σ1 20 p1).idfree&&bPD 40 (thaw σ1 20 p1).strip r.2
  | none=>false)
theorem ExtOk.addPures {P:Program} {E:PExt} (hE:ExtOk P E) (hP:P.follows .mixedOrders=true) {f:FuncId} {N:Nat} (rs:List (List PD×PD)) (h:(rs.all (pureRun P E N f))=true) :
  ExtOk P (E.add f (fun _ args σ=>match gPures rs args with | some p=>some (p,σ) | none=>none)):=by
 refine hE.addFreeN hP fun args p hg=>?_
 obtain ⟨r,hr,ha,rfl⟩:=gPures_some hg
 have hx:=List.all_eq_true.1 h r hr
 simp only [pureRun,Bool.and_eq_true] at hx
 obtain ⟨h1,h2⟩:=hx
 split at h2
 ·rename_i p1 σ1 hrun
  simp only [Bool.and_eq_true] at h2
  rw [pcallF_eq] at hrun
  exact ⟨N,20,p1,σ1,by rw [ha];exact hrun,bPD_eq 40 _ _ h2.2,h2.1,by rw [ha];exact h1⟩
 ·cases h2
end Go.Kz

namespace Go.Kz
theorem Run.unique {P:Program} {E:PExt} {f:FuncId} {args:List PD} {p q:PD} (h:Run P E f args p) (k:Run P E f args q):p=q:=by
 obtain ⟨p1,σ1,⟨N,hN⟩,rfl⟩:=h
 obtain ⟨q1,τ1,⟨M,hM⟩,rfl⟩:=k
 have h1:=hN (max N M) (Nat.le_max_left _ _)
 have h2:=hM (max N M) (Nat.le_max_right _ _)
 rw [h1] at h2
 simp only [Option.some.injEq,Prod.mk.injEq] at h2
 rw [h2.1]
end Go.Kz

namespace Go.Kz
theorem ExtOk.pick {P:Program} {E E0:PExt} (hE:ExtOk P E) (h0:ExtOk P E0) {f:FuncId} {g} (h:E f=some g):ExtOk P (E0.add f g):=by
 intro F fl f' g' args c vs p σ' hF hg hgo hs hX hv
 unfold PExt.add at hg
 split at hg
 ·rename_i e
  subst e
  simp only [Option.some.injEq] at hg;subst hg
  exact hE hF h hgo hs hX hv
 ·exact h0 hF hg hgo hs hX hv
end Go.Kz

namespace Go.Kz
open Go Go.RowKit
theorem laid_one {P:Program} {w:World} {nm:String} {d:DataW Unit}:∀ {laid:List (String×DataW Unit)} {ps:List MemPlace},DataW.LaidVars P w laid ps→(nm,d)∈laid →
  ∃ g t cs fuel p,P.globalNamed nm=some g∧(P.globals[g]?).map (·.type)=some t∧w.var? P nm=some cs∧DataW.trod (fun _=>()) P w 0 (fun _=>true) false fuel t cs.toList=some (d,p)
 | [],_,_,hm=>by cases hm
 | (n,d')::r,ps,h,hm=>by
   obtain ⟨g,t,cs,fuel,p,q,h1,h2,h3,h4,h5,_⟩:=h
   rcases List.mem_cons.1 hm with e | hm
   ·simp only [Prod.mk.injEq] at e
    obtain ⟨rfl,rfl⟩:=e
    exact ⟨g,t,cs,fuel,p,h1,h2,h3,h4⟩
   ·exact laid_one h5 hm
theorem held_of_laid {P:Program} {w:World} {laid:List (String×DataW Unit)} {ps:List MemPlace} {nm:String} {k:IntKind} {xs:List Int} {g n:Nat} {t e:TypeId} (h:DataW.LaidVars P w laid ps)
  (hm:(nm,(.agg (xs.map fun x=>.lit (.int k x)):DataW Unit))∈laid)
  (hg:P.globalNamed nm=some g) (ht:(P.globals[g]?).map (·.type)=some t) (hu:P.underlying t=some (.array n e)) (he:P.underlying e=some (.int k)) (hc:P.cellsOf e=1) (hct:P.cellsOf t=n) :
  ∃ T fz,w.heap[g]?=some (.cells ((xs.map (Value.int k)).toArray) T fz):=by
 obtain ⟨g1,t1,cs1,f1,p1,hg1,ht1,hv1,hd1⟩:=laid_one h hm
 obtain rfl:=Option.some.inj (hg.symm.trans hg1)
 obtain rfl:=Option.some.inj (ht.symm.trans ht1)
 obtain ⟨ys,m1,rfl,hx1,hlen,hn,hel⟩:=DataW.trod_array hu hd1
 simp only [Prod.mk.injEq,DataW.agg.injEq] at hx1
 have hxl:xs.length=n:=by
  have:=congrArg List.length hx1.1
  simp only [List.length_map] at this
  omega
 have key:∀ (j:Nat) (x:Int),xs[j]?=some x→cs1[j]?=some (Value.int k x):=by
  intro j x hj
  have hjl:j < n:=by rw [← hxl];exact (List.getElem?_eq_some_iff.1 hj).1
  have hy:ys[j]?=some ys[j]:=List.getElem?_eq_getElem (by omega)
  have h1:=hel j hjl
  rw [hy,hc,Nat.mul_one] at h1
  obtain ⟨v,e1,e2,_⟩:=DataW.trod_int he h1
  have h2:=congrArg (fun l=>l[j]?) hx1.1
  simp only [List.getElem?_map,hj,hy,Option.map_some,Option.some.injEq,e2,DataW.lit.injEq,Lit.int.injEq] at h2
  have h3:=congrArg (fun l=>l[0]?) e1
  simp only [List.getElem?_take,List.getElem?_drop,Nat.add_zero,Nat.zero_lt_one,if_true,List.getElem?_cons_zero] at h3
  rw [← Array.getElem?_toList,h3,h2.2]
 have hcs:cs1=(xs.map (Value.int k)).toArray:=by
  apply Array.ext'
  apply List.ext_getElem?
  intro j
  rw [List.getElem?_map]
  cases hx:xs[j]? with
  | some x=>rw [Array.getElem?_toList,key j x hx];rfl
  | none=>
    have hj:xs.length≤j:=List.getElem?_eq_none_iff.1 hx
    rw [List.getElem?_eq_none (by rw [hlen,hct];omega)]
    rfl
 have hv:=hv1
 unfold World.var? at hv
 rw [hg,Option.bind_some] at hv
 split at hv
 ·rename_i cs T fz hh
  simp only [Option.some.injEq] at hv
  exact ⟨T,fz,by rw [hh,hv,hcs]⟩
 ·cases hv
theorem eptr_of_held {w:World} {g:Nat} {k:IntKind} {xs:List Int} {T:TypeId} {fz:Nat×Nat} (h:w.heap[g]?=some (.cells ((xs.map (Value.int k)).toArray) T fz)):VR (.start w) (.pointer (some ⟨g,0,none⟩)) (.eptr (xs.map (PD.int k)) 0):=by
 have hadd:∀ j,(⟨g,0,none⟩:Addr).add j=⟨g,j,none⟩:=fun j=>by unfold Addr.add;split <;> simp_all
 have:=VR.eptr (c:=.start w) ⟨g,0,none⟩ (xs.map (Value.int k)) (xs.map (PD.int k)) 0 (by simp) (by simp [Value.oneCell']) (fun j v hj=>by
  rw [hadd]
  refine ⟨?_,av_start _⟩
  show w.cell? ⟨g,j,none⟩=some v
  unfold World.cell?
  simp only [h]
  simpa using hj) (fun j v d h1 h2=>by
  rw [List.getElem?_map] at h1 h2
  cases hx:xs[j]? with
  | none=>rw [hx] at h1;simp at h1
  | some x=>
    rw [hx] at h1 h2
    simp only [Option.map_some,Option.some.injEq] at h1 h2
    subst h1 h2
    exact .int k x)
 rw [hadd] at this
 exact this
theorem int_of_shaped {P:Program} {w:World} {g:Nat} {t:TypeId} {k:IntKind} {zero:Array Value} (h:w.ShapedOpen P) (hg:g < P.globals.size)
  (h0:((begin P (fun _ _=>0) default).world.heap[g]?).bind Obj.row?=some (zero,t)) (hz:zero.size=1) (hb:P.buildable t=true) (hty:P.cellTypes P.depth t=some [t]) (hu:P.underlying t=some (.int k)) :
  ∃ m,∃ T fz,w.heap[g]?=some (.cells #[.int k m] T fz):=by
 obtain ⟨cs,h1,h2,h3⟩:=h.1 g zero t hg h0
 have h4:=h3 hb
 obtain ⟨ts,e1,_,h5⟩:=h4
 obtain rfl:=Option.some.inj (hty.symm.trans e1)
 have hsz:cs.size=1:=by omega
 obtain ⟨u,e2,h6⟩:=h5 0 cs[0] (Array.getElem?_eq_getElem (by omega))
 simp only [List.length_singleton,Nat.zero_mod,List.getElem?_cons_zero,Option.some.injEq] at e2
 subst e2
 unfold Cell.ok at h6
 rw [hu] at h6
 have hv:∃ m,cs[0]=.int k m:=by
  cases hc:cs[0] with
  | int k' m=>
    rw [hc] at h6
    simp only at h6
    exact ⟨m,by rw [h6.1]⟩
  | _=>
    rw [hc] at h6
    simp at h6
 obtain ⟨m,hm⟩:=hv
 refine ⟨m,t,(0,0),?_⟩
 rw [h1]
 have:cs=#[.int k m]:=by
  apply Array.ext
  ·simpa using hsz
  ·intro i hi1 hi2
   have:i=0:=by omega
   subst this
   simpa using hm
 rw [this]
end Go.Kz

namespace Go.Kz
open Go Go.RowKit
theorem handed_shaped {H:Type} {enc:TypeId×Value→H} {a:Assume} {C:Checked} {os:Os} {f:FuncId} {fn:Func} {s:ChangeSpec} {conds:List PathCond} {apart fresh handsOn again:Bool} {X:World→Array Value→Prop}
  (hX:∀ (w w':World) (args:Array Value),w.heap=w'.heap→X w args→X w' args)
  (own:ownKnob C.prog.godebug=none) (started:os.Started) (noInit:C.prog.inits.idxOf? f=none) (hfn:C.prog.funcs[f]?=some fn)
  (witness:∃ (w:World) (tape:Tape) (i:Input),w.os=os∧(w.forCall tape i).Shaped C.prog∧i.vars=[]∧Input.okWide C.prog (w.forCall tape i) .any w.heap.size f i ∧
   ((s.pre enc C.prog fn conds apart (w.forCall tape i).memory i.args∧X (w.forCall tape i).memory i.args)∧sizedMet enc C.prog fn (OpenSpec.ofChange s) apart (w.forCall tape i).memory i.args)∧a.holds C.prog (lone (Frame.enter C.prog f i.args .normal) [] (w.forCall tape i)))
  (contract:∀ (W:World) (base:Nat) (args:Array Value) (ds gs:List (DataW H)) (before:List MemPlace),W.ShapedOpen C.prog →
   (∀ (j:Nat) t v,fn.params[j]?=some t→args[j]?=some v→Value.okWide C.prog W .any base t v) →
   DataW.Whole enc C.prog fn.params.toList s.vars apart W args.toList ds gs before →
   conds.all (PathCond.test C.prog ⟨fn.params.toList,ds,s.plain.varTypes C.prog,gs⟩)=true →
   (DataW.weightsEach C.prog (fn.params.toList++s.plain.varTypes C.prog) (ds++gs)).all (·≤reachBytes)=true→X W args →
   a.holds C.prog (lone (Frame.enter C.prog f args .normal) [] W) →
   Calls C.prog f args W fun e W'=>∃ v,e=.returned v∧s.post enc C.prog fn apart fresh handsOn again W args v W') :
  ReturnsInHanded a C os f .any (fun w args=>(s.pre enc C.prog fn conds apart w args∧X w args)∧sizedMet enc C.prog fn (OpenSpec.ofChange s) apart w args) (s.post enc C.prog fn apart fresh handsOn again):=by
 refine returnsInHanded_of_calls own started noInit witness ?_
 intro w tape i _ hsh _ hok hpre hholds
 obtain ⟨_,_,_,fn',hfn',_,_,_,_,hval⟩:=hok
 obtain rfl:fn'=fn:=Option.some.inj (hfn'.symm.trans hfn)
 obtain ⟨⟨⟨ds,gs,before,hw,hc⟩,hx⟩,hz⟩:=hpre
 have hw':=DataW.Whole.of_heap (w':=w.forCall tape i) (by rfl) hw
 refine (contract (w.forCall tape i) w.heap.size i.args ds gs before hsh hval hw' hc (hz.weights hw) (hX _ _ _ (by rfl) hx) hholds).mono fun e W' ⟨v,he,hp⟩=>?_
 subst he
 exact ChangeSpec.post_blind hp
end Go.Kz

namespace Go.Kz
open Go.RowKit
section
variable {H:Type} {enc:TypeId×Value→H} {P:Program} {w:World} {base:Nat} {sp:Nat→Bool} {held:Bool}
end
end Go.Kz

namespace Go.Kz
open Go
section
variable {P:Program} {call:PCall} {fl:Nat} {ops:Array Oper}
end
section
variable {P:Program} {E:PExt} {fl:Nat} {fr:List PD} {σ:List SObj}
end
section
variable {P:Program} {call:PCall} {fl:Nat} {ops:Array Oper}
end
section
variable {P:Program} {E:PExt} {fl:Nat} {fr:List PD} {σ:List SObj}
end
end Go.Kz

namespace Go.Kz
def byRow (e:TypeId) (bs:List UInt8) (σ:List SObj):PD×List SObj:=if bs=[] then (.slice 0 [] .full,σ) else (.rref σ.length 0 0 bs.length 1,σ++[.row e 1 0 (bs.map fun b=>.int .u8 b.toNat)])
def gBy (e:TypeId) (g:List PD→Option (List UInt8)):Nat→List PD→List SObj→Option (PD×List SObj):=fun _ args σ=>match g (args.map PD.strip) with
 | some bs=>some (byRow e bs σ)
 | none=>none
def RunB (P:Program) (E:PExt) (e:TypeId) (f:FuncId) (args:List PD) (bs:List UInt8):Prop:=
 ∃ p1 σ1,EvC P E 0 (.inl f) args [] p1 σ1∧((bs=[]∧p1=.slice 0 [] .full)∨(bs≠[]∧∃ k v,p1=.rref k v 0 bs.length 1∧σ1[k]?=some (.row e 1 v (bs.map fun b=>.int .u8 b.toNat))))
theorem ExtOk.addBy {P:Program} {E:PExt} (hE:ExtOk P E) (hP:P.follows .mixedOrders=true) {e:TypeId} {f:FuncId} {g:List PD→Option (List UInt8)}
  (h:∀ args bs,g args=some bs→RunB P E e f args bs∧PD.idfreeL args=true):ExtOk P (E.add f (gBy e g)):=by
 intro F fl f' g' args c vs p σ' hF hg hgo hs hX hv
 unfold PExt.add at hg
 split at hg
 rotate_left
 ·exact hE hF hg hgo hs hX hv
 rename_i e0
 subst e0
 simp only [Option.some.injEq] at hg;subst hg
 unfold gBy at hgo
 split at hgo
 rotate_left
 ·cases hgo
 rename_i bs hga
 simp only [Option.some.injEq] at hgo
 obtain ⟨⟨p1,σ1,⟨N,hN⟩,hp⟩,e2⟩:=h _ _ hga
 have hv0:VRs c.bare vs (args.map PD.strip):=hv.strip.free (fun a v h1 h2=>⟨(bare_av a).2 h1,h2⟩) e2
 have:=(pcall_ok hE hP hF N).fn (c:=c.bare) (hN N (Nat.le_refl _)) hs.bare (fun _ _ h=>h.elim) hv0
 refine ⟨this.1,fun m=>CallsIn.mono (this.2 m) fun en w' he=>?_⟩
 cases en with
 | panicked ch=>exact he.elim
 | outgrown=>exact he.elim
 | returned v=>
   obtain ⟨c1,rfl,rfl,hs1,nx,hvv,_⟩:=he
   have hgr:c.w.grownBy c1.w none:=⟨nx.os,nx.tape,nx.output,nx.size,fun k hk _=>nx.frame k hk (fun _ h=>h.elim)⟩
   rcases hp with ⟨rfl,rfl⟩ | ⟨hne,k,ver,rfl,hrow⟩
   ·simp only [byRow,if_true,Prod.mk.injEq] at hgo
    obtain ⟨rfl,rfl⟩:=hgo
    refine ⟨c.at c1.w,rfl,rfl,hs.grow hgr,Nx.grow hs hgr,?_,fun _ h=>.inl h⟩
    obtain ⟨A,cap,fl',rfl,a1,a2,a3,a4,a5,a6,a7,a8⟩:=hvv.inv_slice
    exact .slice A _ cap 0 [] .full fl' rfl a1 a2 a3 a4 a5 (fun j v hj=>by
     have:fl'.length=0:=by simpa using a4
     rw [List.eq_nil_of_length_eq_zero this] at hj
     cases hj) (fun j v d h1 h2=>by simp at h2) a8
   ·simp only [byRow,if_neg hne,Prod.mk.injEq] at hgo
    obtain ⟨rfl,rfl⟩:=hgo
    obtain ⟨b,cap,rfl,hp,h1,h2⟩:=hvv.inv_rref
    obtain ⟨_,C,hr,hC⟩:=(hp.2 _ _ _ _ hrow).2 rfl
    obtain ⟨b',C',cur,r1,r2,r3,r4,r5,r6,r7,r8⟩:=hs1.row k e 1 ver _ hp.1 hrow
    rw [hr] at r1
    simp only [Value.slice.injEq,Option.some.injEq,Addr.mk.injEq,and_true,true_and] at r1
    obtain ⟨rfl,rfl⟩:=r1
    have hge:c.w.heap.size≤b:=by
     rcases Nat.lt_or_ge b c.w.heap.size with hlt | hge
     ·exact (nx.back k b hp.1 (by rw [hr];rfl) hlt).1.elim
     ·exact hge
    have hbk:∀ b0,blk (.slice (some ⟨b,0,none⟩) 0 C)=some b0→c.w.heap.size≤b0:=fun b0 hb=>by
     simp only [blk,Option.some.injEq] at hb
     omega
    have hflat:VRs c (cur.toList.take (bs.map fun b=>PD.int .u8 b.toNat).length) (bs.map fun b=>PD.int .u8 b.toNat):=⟨r7.1,fun i u d q1 q2=>(r7.2 i u d q1 q2).flat (by
     rw [List.getElem?_map] at q2
     cases hj:bs[i]? with
     | none=>rw [hj] at q2;cases q2
     | some x=>
       rw [hj] at q2
       simp only [Option.map_some,Option.some.injEq] at q2
       rw [← q2]
       rfl)⟩
    refine ⟨c.push c1.w (.slice (some ⟨b,0,none⟩) 0 C) (.row e 1 0 (bs.map fun b=>.int .u8 b.toNat)),rfl,rfl,?_,Nx.push hs hgr hbk,?_,?_⟩
    ·refine Sr.push hs hgr (fun b0 hb=>⟨hbk b0 hb,?_⟩) ⟨b,C,cur,rfl,r2,r3,r4,r5,r6,hflat,r8⟩
     simp only [blk,Option.some.injEq] at hb
     subst hb
     exact heap_lt r2
    ·refine .rref _ _ _ _ _ _ b ⟨.inr rfl,fun e' sz0 v' cs hq=>?_⟩ h1 h2
     rw [push_new.1] at hq
     simp only [Option.some.injEq,SObj.row.injEq] at hq
     obtain ⟨rfl,rfl,rfl,rfl⟩:=hq
     exact ⟨Nat.le_refl _,fun _=>⟨rfl,C,push_new.2.1,hC⟩⟩
    ·intro id hd
     rcases hd with hd | rfl
     ·exact .inl hd
     ·exact .inr ⟨Nat.le_refl _,by simp⟩
theorem Uni.by {E:PExt} (hU:Uni E) {e:TypeId} {f:FuncId} {g:List PD→Option (List UInt8)} (h:∀ args,g args≠some []):Uni (E.add f (gBy e g)):=hU.other fun args p hg=>by
 unfold gBy at hg
 split at hg
 ·rename_i bs hb
  simp only [byRow,Option.some.injEq] at hg
  split at hg
  ·rename_i e0
   rw [e0] at hb
   exact h _ hb
  ·simp at hg
 ·cases hg
mutual
def PD.noU8:PD→Bool
 | .bool _ | .str _ | .nilptr | .nilfunc | .opq _=>true
 | .int k _=>decide (k≠.u8)
 | .agg cs=>PD.noU8L cs
 | .tup cs=>PD.noU8L cs
 | .slice _ xs _=>PD.noU8L xs
 | _=>false
def PD.noU8L:List PD→Bool
 | []=>true
 | x::xs=>x.noU8&&PD.noU8L xs
end
theorem PD.noU8L_all:∀ xs:List PD,PD.noU8L xs=xs.all PD.noU8
 | []=>by simp [PD.noU8L]
 | x::xs=>by simp [PD.noU8L,PD.noU8L_all xs]
theorem noU8_at {ds:List PD} {i:Nat} {d:PD} (h:PD.noU8L ds=true) (hd:ds[i]?=some d):d.noU8=true:=by
 rw [PD.noU8L_all] at h
 exact List.all_eq_true.1 h d (List.mem_of_getElem? hd)
theorem noU8_cells {x:PD} (h:x.noU8=true) {d:PD} (hd:d∈x.cells):d.noU8=true:=by
 cases x with
 | agg cs=>
   simp only [PD.noU8] at h
   obtain ⟨i,hi⟩:=List.getElem?_of_mem (show d∈cs from hd)
   exact noU8_at h hi
 | typed t cs=>simp [PD.noU8] at h
 | _=>simp only [PD.cells,List.mem_singleton] at hd;rw [hd];exact h
theorem noU8_int {c:Cx} {v:Value} {d:PD} (hv:VR c v d) (h:d.noU8=true) (n:Int):v≠.int .u8 n:=by
 rintro rfl
 cases hv with
 | int k m=>simp [PD.noU8] at h
 | opq v h2=>simp [opqOk] at h2
theorem VR.noBytes {c c':Cx} (hw:c'.w=c.w) (hav:∀ a,c.av a→c'.av a∨∀ v,c.w.cell? a=some v→∃ n,v=.int .u8 n) {v:Value} {p:PD} (hv:VR c v p):p.noU8=true→p.idfree=true→VR c' v p:=by
 induction hv with
 | bool b=>intro _ _;exact .bool b
 | int k n=>intro _ _;exact .int k n
 | str s=>intro _ _;exact .str s
 | nilptr=>intro _ _;exact .nilptr
 | nilfunc=>intro _ _;exact .nilfunc
 | opq v h=>intro _ _;exact .opq v h
 | agg cs ds hl h1 h2 ih=>
   intro hp hf
   simp only [PD.noU8] at hp
   simp only [PD.idfree] at hf
   exact .agg cs ds hl h1 fun i u d hu hd=>ih i u d hu hd (noU8_at hp hd) (idfree_list hf (List.mem_of_getElem? hd))
 | tup cs ds hl h2 ih=>
   intro hp hf
   simp only [PD.noU8] at hp
   simp only [PD.idfree] at hf
   exact .tup cs ds hl fun i u d hu hd=>ih i u d hu hd (noU8_at hp hd) (idfree_list hf (List.mem_of_getElem? hd))
 | slice A n cap size xs tok fl hn hc hm hx hfl h1 hcell h2 ht ih=>
   intro hp hf
   simp only [PD.noU8] at hp
   simp only [PD.idfree,Bool.and_eq_true] at hf
   have hno:∀ (j:Nat) (d:PD),(xs.flatMap PD.cells)[j]?=some d→d.noU8=true∧d.idfree=true:=fun j d hd=>by
    obtain ⟨y,hy,hyd⟩:=List.mem_flatMap.1 (List.mem_of_getElem? hd)
    obtain ⟨i,hi⟩:=List.getElem?_of_mem hy
    exact ⟨noU8_cells (noU8_at hp hi) hyd,idfree_cells (idfree_list hf.1 hy) hyd⟩
   have hlen:fl.length=(xs.flatMap PD.cells).length:=by rw [flat_length xs hx,hfl,hn]
   refine .slice A n cap size xs tok fl hn hc hm hx hfl h1 (fun j u hj=>?_) (fun j u d hj hd=>ih j u d hj hd (hno j d hd).1 (hno j d hd).2) ?_
   ·obtain ⟨ad,e,g1,g2⟩:=hcell j u hj
    refine ⟨ad,e,by rw [hw];exact g1,?_⟩
    rcases hav _ g2 with h | h
    ·exact h
    ·obtain ⟨m,hm'⟩:=h u g1
     have hlt:j < (xs.flatMap PD.cells).length:=by rw [← hlen];exact (List.getElem?_eq_some_iff.1 hj).1
     have hd:=List.getElem?_eq_getElem hlt
     exact absurd hm' (noU8_int (h2 j u _ hj hd) (hno j _ hd).1 m)
   ·cases tok with
    | own id=>exact absurd hf.2 (by simp)
    | any=>trivial
    | full=>exact ht
    | nil=>exact ht
    | nul=>exact ht
    | non=>exact ht
 | ptr id off b hd hs hr=>intro _ hf;simp [PD.idfree] at hf
 | sref id off n cap size b hd hs hr h1 h2=>intro _ hf;simp [PD.idfree] at hf
 | rref id ver off n cap size b hp1 h1 h2=>intro _ hf;simp [PD.idfree] at hf
 | rptr id ver off b hp1=>intro _ hf;simp [PD.idfree] at hf
 | mref id b hd hn hr=>intro _ hf;simp [PD.idfree] at hf
 | iface t v p _ ih=>intro hp;simp [PD.noU8] at hp
 | eptr ad fl' ds off hl h1 hcl _ ih=>intro hp;simp [PD.noU8] at hp
 | func f cs ds hl _ ih=>intro hp;simp [PD.noU8] at hp
 | mfunc f cs ds hl _ ih=>intro hp;simp [PD.noU8] at hp
 | yield id l hd hn hr=>intro hp;simp [PD.noU8] at hp
def isByt:PD→Bool
 | .int .u8 _=>true
 | _=>false
def breadR (σ:List SObj) (id ver off n size:Nat):PD:=match σ[id]? with
 | some (.row _ sz ver' cs)=>if ver'=ver∧sz=1∧size=1∧off+n≤cs.length∧cs.all isByt=true then .slice 1 ((cs.drop off).take n) .any else .rref id ver off n size
 | _=>.rref id ver off n size
def bread (σ:List SObj):PD→PD
 | .rref id ver off n size=>breadR σ id ver off n size
 | p=>p.strip
def Cx.heldB (c:Cx) (a:Addr):Prop:=∃ id b e ver C ds,c.D id∧c.σ[id]?=some (.row e 1 ver ds)∧c.ρ id=.slice (some ⟨b,0,none⟩) 0 C∧ds.all isByt=true∧a.off < ds.length∧a=⟨b,a.off,none⟩
def Cx.openB (c:Cx):Cx:={ w:=c.w,ρ:=fun _=>undef,σ:=[],D:=fun _=>False,X:=fun a=>c.av a∨c.heldB a }
theorem openB_av {c:Cx} (a:Addr):c.openB.av a↔(c.av a∨c.heldB a):=⟨fun h=>h.1,fun h=>⟨h,fun _ _ hd=>hd.elim⟩⟩
theorem Sr.openB {c:Cx} (hs:Sr c):Sr c.openB where
 box:=fun _ _ h=>h.elim
 own:=fun _ _ _ _ h=>h.elim
 row:=fun _ _ _ _ _ h=>h.elim
 map:=fun _ _ h=>h.elim
 mark:=fun _ h=>h.elim
 loop:=fun _ _ _ _ _ _ h=>h.elim
 inj:=fun _ _ _ h=>h.elim
 lt:=fun _ _ h=>h.elim
 dom:=fun _ h=>h.elim
 fresh:=fun _ h=>.inl (av_fresh hs h)
 glob:=⟨fun g ds e=>(hs.glob.1 g ds e).free (fun a v h1 h2=>⟨(openB_av a).2 (.inl h1),h2⟩) (by simpa [PD.idfree] using gcells_free e),fun g hh=>⟨(hs.glob.2 g hh).1,fun _ h=>h.elim⟩⟩
theorem isByt_plain {d:PD} (h:isByt d=true):d.cells=[d]∧∃ n,d=.int .u8 n:=by
 unfold isByt at h
 split at h
 ·exact ⟨rfl,_,rfl⟩
 ·cases h
theorem u8_flat:∀ {cs:List PD},(∀ d∈cs,isByt d=true)→cs.flatMap PD.cells=cs
 | [],_=>rfl
 | x::xs,h=>by
   rw [List.flatMap_cons,(isByt_plain (h x (by simp))).1,u8_flat (fun d hd=>h d (by simp [hd]))]
   rfl
theorem bread_ok {c:Cx} (hs:Sr c) {v:Value} {p:PD} (hv:VR c v p) (hf:(bread c.σ p).idfree=true):VR c.openB v (bread c.σ p):=by
 have up:∀ a v,c.av a→c.w.cell? a=some v→c.openB.av a∧c.openB.w.cell? a=some v:=fun a v h1 h2=>⟨(openB_av a).2 (.inl h1),h2⟩
 by_cases hr:∃ id ver off n size,p=.rref id ver off n size
 ·obtain ⟨id,ver,off,n,size,rfl⟩:=hr
  have eb:bread c.σ (.rref id ver off n size)=breadR c.σ id ver off n size:=rfl
  rw [eb] at hf ⊢
  unfold breadR at hf ⊢
  by_cases hx:∃ e sz ver' cs,c.σ[id]?=some (.row e sz ver' cs)
  ·obtain ⟨e,sz,ver',cs,hq⟩:=hx
   simp only [hq] at hf ⊢
   split at hf
   ·rename_i hc
    rw [if_pos hc]
    obtain ⟨rfl,rfl,rfl,hle,hall⟩:=hc
    have hall':∀ d∈cs,isByt d=true:=fun d hd=>List.all_eq_true.1 hall d hd
    obtain ⟨b,cap,rfl,hp,h1,h2⟩:=hv.inv_rref
    obtain ⟨_,C,hr,_⟩:=(hp.2 _ _ _ _ hq).2 rfl
    obtain ⟨b',C',cur,r1,r2,r3,r4,r5,r6,r7,r8⟩:=hs.row id e 1 _ cs hp.1 hq
    rw [hr] at r1
    simp only [Value.slice.injEq,Option.some.injEq,Addr.mk.injEq,and_true,true_and] at r1
    obtain ⟨rfl,rfl⟩:=r1
    have hadd:∀ j,(⟨b,off,none⟩:Addr).add j=⟨b,off+j,none⟩:=fun j=>by unfold Addr.add;split <;> simp_all
    have hsub:∀ d∈(cs.drop off).take n,isByt d=true:=fun d hd=>hall' d (List.mem_of_mem_drop (List.mem_of_mem_take hd))
    have hcl:(cur.toList.take cs.length).length=cs.length:=r7.1
    refine .slice (some ⟨b,off,none⟩) n cap 1 _ .any (((cur.toList.take cs.length).drop off).take n) ?_ h1 h2 (fun x hx=>by rw [(isByt_plain (hsub x hx)).1];rfl) ?_ (fun v hv=>r8 v (List.mem_of_mem_take (List.mem_of_mem_drop (List.mem_of_mem_take hv)))) (fun j v hj=>?_) (fun j v d hj hd=>?_) trivial
    ·rw [List.length_take,List.length_drop];omega
    ·rw [List.length_take,List.length_drop,hcl];omega
    ·rw [List.getElem?_take] at hj
     split at hj
     ·rename_i hjn
      rw [List.getElem?_drop,List.getElem?_take] at hj
      split at hj
      ·rename_i hlt
       refine ⟨_,rfl,?_,(openB_av _).2 (.inr ?_)⟩
       ·rw [hadd]
        show c.w.cell? ⟨b,off+j,none⟩=some v
        simp only [World.cell?,r2]
        simpa using hj
       ·rw [hadd]
        exact ⟨id,b,e,_,C,cs,hp.1,hq,hr,hall,hlt,rfl⟩
      ·cases hj
     ·cases hj
    ·rw [u8_flat hsub] at hd
     exact ((r7.take_drop off n).2 j v d hj hd).flat (by
      obtain ⟨m,rfl⟩:=(isByt_plain (hsub d (List.mem_of_getElem? hd))).2
      rfl)
   ·simp [PD.idfree] at hf
  ·exfalso
   cases ho:c.σ[id]? with
   | none=>simp [ho,PD.idfree] at hf
   | some o=>
     cases o with
     | row e sz ver' cs=>exact hx ⟨_,_,_,_,ho⟩
     | _=>simp [ho,PD.idfree] at hf
 ·have e:bread c.σ p=p.strip:=by
   cases p <;> first | rfl | exact absurd ⟨_,_,_,_,_,rfl⟩ hr
  rw [e] at hf ⊢
  exact hv.strip.free up hf
def bentry (g:List PD→Option PD):Nat→List PD→List SObj→Option (PD×List SObj):=fun _ args σ=>
 if PD.idfreeL (args.map (bread σ))=true then (match g (args.map (bread σ)) with | some p=>if (p.noU8&&p.idfree)=true then some (p,σ) else none | none=>none) else none
end Go.Kz

namespace Go.Kz
theorem ExtOk.addBR {P:Program} {E:PExt} (hE:ExtOk P E) (hP:P.follows .mixedOrders=true) {f:FuncId} {g:List PD→Option PD}
  (h:∀ args p,g args=some p→Run P E f args p):ExtOk P (E.add f (bentry g)):=by
 intro F fl f' g' args c vs p σ' hF hg hgo hs hX hv
 unfold PExt.add at hg
 split at hg
 rotate_left
 ·exact hE hF hg hgo hs hX hv
 rename_i e0
 subst e0
 simp only [Option.some.injEq] at hg;subst hg
 unfold bentry at hgo
 split at hgo
 rotate_left
 ·cases hgo
 rename_i hid
 split at hgo
 rotate_left
 ·cases hgo
 rename_i q hga
 split at hgo
 rotate_left
 ·cases hgo
 rename_i hno
 simp only [Bool.and_eq_true] at hno
 simp only [Option.some.injEq,Prod.mk.injEq] at hgo
 obtain ⟨rfl,rfl⟩:=hgo
 obtain ⟨p1,σ1,⟨N,hN⟩,e1⟩:=h _ q hga
 have hv0:VRs c.openB vs (args.map (bread c.σ)):=by
  refine ⟨by rw [List.length_map];exact hv.1,fun i v q h1 h2=>?_⟩
  rw [List.getElem?_map] at h2
  cases h0:args[i]? with
  | none=>rw [h0] at h2;cases h2
  | some p=>
    rw [h0] at h2
    simp only [Option.map_some,Option.some.injEq] at h2
    subst h2
    exact bread_ok hs (hv.2 i v p h1 h0) (idfree_list hid (List.mem_map.2 ⟨p,List.mem_of_getElem? h0,rfl⟩))
 have:=(pcall_ok hE hP hF N).fn (c:=c.openB) (hN N (Nat.le_refl _)) hs.openB (fun _ _ h=>h.elim) hv0
 refine ⟨this.1,fun m=>CallsIn.mono (this.2 m) fun en w' he=>?_⟩
 cases en with
 | panicked ch=>exact he.elim
 | outgrown=>exact he.elim
 | returned v=>
   obtain ⟨c1,rfl,rfl,hs1,nx,hvv,_⟩:=he
   have hgr:c.w.grownBy c1.w none:=⟨nx.os,nx.tape,nx.output,nx.size,fun k hk _=>nx.frame k hk (fun _ h=>h.elim)⟩
   have hsc:=hs.grow hgr
   refine ⟨c.at c1.w,rfl,rfl,hsc,Nx.grow hs hgr,?_,fun _ h=>.inl h⟩
   have hgrB:c.openB.w.grownBy c1.w none:=hgr
   have hav:∀ a,c1.av a→(c.openB.at c1.w).av a:=fun a h1=>by
    have h3:c1.X a:=h1.1
    rw [nx.X] at h3
    exact ⟨h3,fun _ _ hd=>hd.elim⟩
   have hT:=hvv.strip
   rw [e1] at hT
   replace hT:VR (c.openB.at c1.w) v q:=hT.free (fun a u h1 h2=>⟨hav a h1,h2⟩) hno.2
   refine VR.noBytes (c:=c.openB.at c1.w) (c':=c.at c1.w) rfl (fun a ha=>?_) hT hno.1 hno.2
   have hX':c.av a∨c.heldB a:=ha.1
   rcases hX' with h | ⟨id,b,e,ver,C,ds,d1,d2,d3,d4,d5,d6⟩
   ·exact .inl h
   ·refine .inr fun u hu=>?_
    obtain ⟨b',C',cur,r1,r2,r3,r4,r5,r6,r7,r8⟩:=hsc.row id e 1 ver ds d1 d2
    have d3':(c.at c1.w).ρ id=.slice (some ⟨b,0,none⟩) 0 C:=d3
    rw [d3'] at r1
    simp only [Value.slice.injEq,Option.some.injEq,Addr.mk.injEq,and_true,true_and] at r1
    obtain ⟨rfl,rfl⟩:=r1
    have hu':c1.w.cell? a=some u:=hu
    rw [d6] at hu'
    have r2':c1.w.heap[b]?=some (.cells cur e (0,0)):=r2
    simp only [World.cell?,r2'] at hu'
    have hds:ds[a.off]?=some ds[a.off]:=List.getElem?_eq_getElem d5
    obtain ⟨m,hm⟩:=(isByt_plain (List.all_eq_true.1 d4 _ (List.getElem_mem d5))).2
    have hc:(cur.toList.take ds.length)[a.off]?=some u:=by
     rw [List.getElem?_take,if_pos d5]
     simpa using hu'
    have:=r7.2 a.off u _ hc hds
    rw [hm] at this
    exact ⟨m,this.inv_int⟩
theorem ExtOk.addBN {P:Program} {E:PExt} (hE:ExtOk P E) (hP:P.follows .mixedOrders=true) {f:FuncId} {g:List PD→Option PD}
  (h:∀ args p,g args=some p→∃ N k p1 σ1,pcall P E N 0 (.inl f) args []=some (p1,σ1)∧(thaw σ1 k p1).strip=p∧(thaw σ1 k p1).idfree=true):ExtOk P (E.add f (bentry g)):=by
 intro F fl f' g' args c vs p σ' hF hg hgo hs hX hv
 unfold PExt.add at hg
 split at hg
 rotate_left
 ·exact hE hF hg hgo hs hX hv
 rename_i e0
 subst e0
 simp only [Option.some.injEq] at hg;subst hg
 unfold bentry at hgo
 split at hgo
 rotate_left
 ·cases hgo
 rename_i hid
 split at hgo
 rotate_left
 ·cases hgo
 rename_i q hga
 split at hgo
 rotate_left
 ·cases hgo
 rename_i hno
 simp only [Bool.and_eq_true] at hno
 simp only [Option.some.injEq,Prod.mk.injEq] at hgo
 obtain ⟨rfl,rfl⟩:=hgo
 obtain ⟨N,k,p1,σ1,hN,e1,e3⟩:=h _ q hga
 have hv0:VRs c.openB vs (args.map (bread c.σ)):=by
  refine ⟨by rw [List.length_map];exact hv.1,fun i v q h1 h2=>?_⟩
  rw [List.getElem?_map] at h2
  cases h0:args[i]? with
  | none=>rw [h0] at h2;cases h2
  | some p=>
    rw [h0] at h2
    simp only [Option.map_some,Option.some.injEq] at h2
    subst h2
    exact bread_ok hs (hv.2 i v p h1 h0) (idfree_list hid (List.mem_map.2 ⟨p,List.mem_of_getElem? h0,rfl⟩))
 have:=(pcall_ok hE hP hF N).fn (c:=c.openB) (hN) hs.openB (fun _ _ h=>h.elim) hv0
 refine ⟨this.1,fun m=>CallsIn.mono (this.2 m) fun en w' he=>?_⟩
 cases en with
 | panicked ch=>exact he.elim
 | outgrown=>exact he.elim
 | returned v=>
   obtain ⟨c1,rfl,rfl,hs1,nx,hvv,_⟩:=he
   have hgr:c.w.grownBy c1.w none:=⟨nx.os,nx.tape,nx.output,nx.size,fun k hk _=>nx.frame k hk (fun _ h=>h.elim)⟩
   have hsc:=hs.grow hgr
   refine ⟨c.at c1.w,rfl,rfl,hsc,Nx.grow hs hgr,?_,fun _ h=>.inl h⟩
   have hgrB:c.openB.w.grownBy c1.w none:=hgr
   have hav:∀ a,c1.av a→(c.openB.at c1.w).av a:=fun a h1=>by
    have h3:c1.X a:=h1.1
    rw [nx.X] at h3
    exact ⟨h3,fun _ _ hd=>hd.elim⟩
   have hnew:∀ id b,c1.D id→blk (c1.ρ id)=some b→∀ j,(c.openB.at c1.w).av ⟨b,j,none⟩:=fun id b hd hb j=>by
    have hge:c.w.heap.size≤b:=by
     rcases Nat.lt_or_ge b c.w.heap.size with hlt | hge
     ·exact (nx.back id b hd hb hlt).1.elim
     ·exact hge
    exact ⟨hs.openB.fresh _ hge,fun _ _ hd=>hd.elim⟩
   have hT:=(thaw_VR hs1 (c2:=c.openB.at c1.w) rfl hav hnew k v p1 hvv e3).strip
   rw [e1] at hT
   refine VR.noBytes (c:=c.openB.at c1.w) (c':=c.at c1.w) rfl (fun a ha=>?_) hT hno.1 hno.2
   have hX':c.av a∨c.heldB a:=ha.1
   rcases hX' with h | ⟨id,b,e,ver,C,ds,d1,d2,d3,d4,d5,d6⟩
   ·exact .inl h
   ·refine .inr fun u hu=>?_
    obtain ⟨b',C',cur,r1,r2,r3,r4,r5,r6,r7,r8⟩:=hsc.row id e 1 ver ds d1 d2
    have d3':(c.at c1.w).ρ id=.slice (some ⟨b,0,none⟩) 0 C:=d3
    rw [d3'] at r1
    simp only [Value.slice.injEq,Option.some.injEq,Addr.mk.injEq,and_true,true_and] at r1
    obtain ⟨rfl,rfl⟩:=r1
    have hu':c1.w.cell? a=some u:=hu
    rw [d6] at hu'
    have r2':c1.w.heap[b]?=some (.cells cur e (0,0)):=r2
    simp only [World.cell?,r2'] at hu'
    have hds:ds[a.off]?=some ds[a.off]:=List.getElem?_eq_getElem d5
    obtain ⟨m,hm⟩:=(isByt_plain (List.all_eq_true.1 d4 _ (List.getElem_mem d5))).2
    have hc:(cur.toList.take ds.length)[a.off]?=some u:=by
     rw [List.getElem?_take,if_pos d5]
     simpa using hu'
    have:=r7.2 a.off u _ hc hds
    rw [hm] at this
    exact ⟨m,this.inv_int⟩
def gPuB:List (List PD×PD)→List PD→Option PD
 | [],_=>none
 | r::rs,args=>if bList (bPD 40) args r.1=true then some r.2 else gPuB rs args
theorem gPuB_some:∀ {rs:List (List PD×PD)} {args:List PD} {p:PD},gPuB rs args=some p→∃ r∈rs,args=r.1∧p=r.2
 | [],_,_,h=>by cases h
 | r::rs,args,p,h=>by
   unfold gPuB at h
   split at h
   ·rename_i hc
    simp only [Option.some.injEq] at h
    exact ⟨r,by simp,bList_eq (bPD_eq 40) _ _ hc,h.symm⟩
   ·obtain ⟨r',hr,h'⟩:=gPuB_some h
    exact ⟨r',by simp [hr],h'⟩
theorem ExtOk.addPuresB {P:Program} {E:PExt} (hE:ExtOk P E) (hP:P.follows .mixedOrders=true) {f:FuncId} {N:Nat} (rs:List (List PD×PD)) (h:(rs.all (pureRun P E N f))=true) :
  ExtOk P (E.add f (bentry (gPuB rs))):=by
 refine hE.addBN hP fun args p hg=>?_
 obtain ⟨r,hr,rfl,rfl⟩:=gPuB_some hg
 have hx:=List.all_eq_true.1 h r hr
 simp only [pureRun,Bool.and_eq_true] at hx
 obtain ⟨h1,h2⟩:=hx
 split at h2
 ·rename_i p1 σ1 hrun
  simp only [Bool.and_eq_true] at h2
  rw [pcallF_eq] at hrun
  exact ⟨N,20,p1,σ1,hrun,bPD_eq 40 _ _ h2.2,h2.1⟩
 ·cases h2
end Go.Kz
