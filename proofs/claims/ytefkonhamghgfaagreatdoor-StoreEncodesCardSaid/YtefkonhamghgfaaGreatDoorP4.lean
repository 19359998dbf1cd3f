/-
  Part P4 of the way: an interpreter over pure data, its soundness, walks through functions.
-/
import Derived.Test.YtefkonhamghgfaaGreatDoorP3
import Derived.Test.YtefkonhamghgfaaGreatDoorProg
import Derived.KernelRfl
import Derived.Test.YtefkonhamghgfaaGreatDoorP2
import Derived.Handed
import Derived.SizedLaws
set_option linter.all false

set_option maxHeartbeats 40000000
open Go.Proofs.Tryz
noncomputable section
namespace Go.Kz
section
section
variable{α:Type}{l r:List α}{x y:α}{n:Nat}
end
end
@[simp] theorem aQw{α:Type}{k:Nat}{xs:List α}:sz (sz k xs) xs=sz k xs:=by
  unfold sz
  split<;>rfl
def cV(σ:List aB)(tok:Tok)(e:TypeId)(k n:Nat):Prop:=(n=0/\tok=.full)\/(0<n/\∃id,tok=.own id/\σ[id]?=some (.own e k n))
def Tok.not(tok:Tok)(id:Nat):Prop:=tok≠.own id
theorem cV.dH{σ σ':List aB}{tok:Tok}{e:TypeId}{k n:Nat}(h:cV σ tok e k n)(hk:∀id o,tok=.own id->σ[id]?=some o->σ'[id]?=some o):cV σ' tok e k n:=by
 rcases h with h | ⟨h0,id,h1,h2⟩
 ·exact .inl h
 ·exact .inr ⟨h0,id,h1,hk id _ h1 h2⟩
theorem cV.more{σ τ:List aB}{tok:Tok}{e:TypeId}{k n:Nat}(h:cV σ tok e k n):cV (σ++τ) tok e k n:=
 h.dH fun id o _ h=>by
  rw[yAg (yA.1 h).1]
  exact h
theorem pY{P:Program}{σ:List aB}{t e:TypeId}{k b s:Nat}{xs:List PD}{p:PD}{tk tok:Tok}(hu:P.underlying t=some (.slice e))(hi:mS P e=some (k,b))(hs:xs=[]\/s=k)(hr:cV σ tok e k xs.length)
  (hm:xs.length+1<=100000000000000) (hb:(xs.length+1)*b<=140737488355328) :
  ∃bQ σ',fZ P 0 σ t (.slice s xs tok) (.slice k [p] tk)=some (.slice k (xs++[p]) bQ,σ')/\cV σ' bQ e k (xs.length+1)/\(∀id o,tok≠.own id->σ[id]?=some o->σ'[id]?=some o)/\(∀id,bQ=.own id->tok=.own id\/id=σ.length):=by
 unfold mS at hi
 split at hi
 ·rename_i i h1
  split at hi
  ·rename_i z h2
   split at hi
   ·rename_i h3
    simp only[yAb,yAc]at hi
    obtain⟨rfl,rfl⟩:=hi
    have hs':xs.length=0\/s=i.size:=hs.imp (fun h=>by rw[h];rfl) (fun h=>h)
    have e1:[p].length=1:=rfl
    have hmm:xs.length+1<=maxLen:=by simp only[maxLen];omega
    rcases hr with⟨hn,rfl⟩ | ⟨hpos,id,rfl,hid⟩
    ·refine⟨.own σ.length,σ++[.own e i.size (xs.length+1)],?_,.inr ⟨by omega,_,rfl,yBb⟩,fun id o _ h=>?_,fun id h=>?_⟩
     ·simp only[fZ,hu,h1,h2,e1,hs',h3.2,h3.1,hmm,hb,or_true,and_self,if_true,Nat.one_ne_zero,if_false]
     ·rw[yAg (yA.1 h).1];exact h
     ·right;simpa using h.symm
    ·have hlt:=(yA.1 hid).1
     have hsz:s=i.size:=hs'.resolve_left (by omega)
     refine⟨.own id,σ.set id (.own e i.size (xs.length+1)),?_,.inr ⟨by omega,id,rfl,by rw[yAj hlt]⟩,fun j o hj h=>?_,fun j h=>.inl h⟩
     ·simp only[fZ,hu,h1,h2,e1,h3.2,h3.1,hmm,hb,or_true,and_self,if_true,Nat.one_ne_zero,if_false,hsz,yBf,hid]
     ·have hne:id≠j:=fun e=>hj (by rw[e])
      rw[yAd hne];exact h
   ·cases hi
  ·cases hi
 ·cases hi
section
def G7:Op->Bool
 |.box ..=>true
 |.call { callee:=.builtin .append,.. }=>true
 |.call { callee:=.builtin .copy,.. }=>true
 |_=>false
def A7(ops:Array Oper):Bool:=A8 ops.toList [] fun ms=>
 (List.range ops.size).all fun i=>!lC G7 ops.toList i||lD ops.toList ms i
section
variable{P:Program}{E:aD}{fl:Nat}{fr:List PD}{σ:List aB}
theorem aFu(hU:aI E){tg:FuncId ⊕ Nat}{args:List PD}{x:PD×List aB}(h:lQ E fl tg args σ=some x):gE E fl tg args σ=some x:=by
 cases tg with
 |inr id=>cases h
 |inl f=>
  simp only[lQ]at h
  split at h
  ·rename_i g hg
   split at h
   ·rename_i p hp
    simp only[yAb]at h;subst h
    simp only[gE,hg]
    exact hU f g args p hg hp fl σ
   ·cases h
  ·cases h
theorem aFv(hU:aI E){op:Op}{x:PD×List aB}(h:cP P (lQ E) fl fr σ op=some x):cP P (gE E) fl fr σ op=some x:=by
 unfold cP at *
 cases hc:iU fr op with
 |some q=>
  obtain⟨tg,args⟩:=q
  simp only[hc]at h ⊢
  exact aFu hU h
 |none=>
  simp only[hc]at h ⊢
  exact h
theorem G8(hU:aI E){ops:Array Oper}:∀(l:List Oper) (i:Nat) (fr:List PD) (σ:List aB) (x:List PD×List aB),ops.toList.drop i=l->A7 ops=true ->
  gF P (lQ E) fl ops l fr σ=some x->mR P (gE E) fl ops (flags ops i l) fr σ=some x
 | [],_,_,_,_,_,_,h=>h
 |o::l,i,fr,σ,x,hd,hm,h=>by
  have ho:ops.toList[i]?=some o:=by
   have:=congrArg List.head? hd
   rw[List.head?_drop]at this
   simpa using this
  have hd':ops.toList.drop (i+1)=l:=by rw[<-List.drop_drop,hd];rfl
  have hi:i<ops.size:=by
   have:=(yA.1 ho).1
   simpa using this
  have hown:G7 o.op=false\/vW ops i=true:=by
   have hm':=hm
   rw[A7,D4]at hm'
   simp only[yAn,List.mem_range,Bool.or_eq_true,Bool.not_eq_true']at hm'
   have:=hm' i hi
   rw[lC,ho]at this
   simpa [vW]using this
  simp only[gF]at h
  simp only[flags,mR]
  split at h
  ·rename_i hw
   rw[if_pos hw]
   split at h
   ·rename_i p σ1 hp
    cases hf:(!fM o.op||vW ops i)with
    |true=>
     simp only[aFv hU hp]
     exact G8 hU l (i+1) _ _ _ hd' hm h
    |false=>
     simp only[Bool.or_eq_false_iff,Bool.not_eq_false']at hf
     obtain⟨jP,wZ⟩:=hf
     rw[wZ]at hown
     have hop:G7 o.op=false:=by simpa using hown
     obtain⟨e1,e2⟩:=LB (P:=P) hU (dP:=max fl σ.length) (op:=o.op) (by
      cases hq:o.op with
      |box t x=>rw[hq]at hop;cases hop
      |call c=>
       obtain⟨callee,args,ts⟩:=c
       cases callee with
       |builtin b=>cases b<;>first|rfl|(rw[hq]at hop;cases hop)
       |value f=>rfl
       |invoke r m=>rfl
      |_=>rfl) jP hp
     simp only at e2
     subst e2
     simp only[e1,List.drop_length,yAl]
     exact G8 hU l (i+1) _ _ _ hd' hm h
   ·cases h
  ·rename_i hw
   rw[if_neg hw]
   exact G8 hU l (i+1) _ _ _ hd' hm h
theorem WL.X9{rd:Option Nat}{ms:List Nat}{Q:PO->Prop}{ops:Array Oper}{id:Nat}(hU:aI E)(_hd:yM ops=true)(hs:(rN ops&&A7 ops)=true)(h:SQ P (lQ E) fl ops ops.toList fr σ (fun fr' σ'=>Q ⟨.normal,fr',ms,σ'⟩)) :
  Wp P E rd (.region id ops true) fl fr ms σ Q:=by
 simp only[yAr,G9]at hs
 obtain⟨fr',σ',h1,h2⟩:=h.ex
 exact .draw hs.1 (G8 hU _ 0 _ _ _ (by simp) hs.2 h1) h2
theorem WL.X8{rd:Option Nat}{ms:List Nat}{Q:PO->Prop}{ops:Array Oper}{id:Nat}{y:Code}(hU:aI E)(_hd:yM ops=true)(hs:(rN ops&&A7 ops)=true)(h:SQ P (lQ E) fl ops ops.toList fr σ (fun fr' σ'=>Wp P E rd y fl fr' ms σ' Q)) :
  Wp P E rd (.seq (.region id ops true) y) fl fr ms σ Q:=by
 simp only[yAr,G9]at hs
 obtain⟨fr',σ',h1,h2⟩:=h.ex
 exact .seq (.draw hs.1 (G8 hU _ 0 _ _ _ (by simp) hs.2 h1) (.normal h2))
end
end
section
def RA(ops:Array Oper):Bool:=ops.toList.all fun o=>!dM o.op||o.guard.isNone
def RB(ops:Array Oper):Bool:=A8 ops.toList [] fun ms=>
 vZ ops ms&&(List.range ops.size).all fun k=>!lC lE ops.toList k||(List.range ops.size).all fun i=>!lC gX ops.toList i||!loose ms i k
section
variable{P:Program}{E:aD}{fl:Nat}{fr:List PD}{σ:List aB}
theorem aAE(hU:aI E){dP:Nat}{σ2:List aB}{op:Op}{x:PD×List aB}(hop:(match op with
 |.box ..=>false
 |.call { callee:=.builtin .append,.. }=>false
 |.call { callee:=.builtin .copy,.. }=>false
 |_=>true)=true) (hm:fM op=true) (h:cP P (lQ E) fl fr σ op=some x):cP P (gE E) dP fr σ2 op=some (x.1,σ2)/\x.2=σ:=by
 refine⟨?_,(LB hU (dP:=0) hop hm h).2⟩
 unfold cP at *
 cases hc:iU fr op with
 |some q=>
  obtain⟨tg,args⟩:=q
  simp only[hc]at h ⊢
  cases tg with
  |inr id=>cases h
  |inl f=>
   simp only[lQ]at h
   split at h
   ·rename_i g hg
    split at h
    ·rename_i p hp
     simp only[yAb]at h;subst h
     simp only[gE,hg]
     exact hU f g args p hg hp dP σ2
    ·cases h
   ·cases h
 |none=>
  simp only[hc]at h ⊢
  exfalso
  cases op with
  |box t x=>cases hop
  |call c=>
   obtain⟨callee,args,ts⟩:=c
   cases callee with
   |value f=>simp[pop,eP,dL]at h
   |invoke r m=>simp[fM]at hm
   |builtin b=>cases b<;>first|(simp[fM]at hm;done)|cases hop
  |_=>simp[fM]at hm
theorem aHy{t:TypeId}{a p:PD}(hs:List aB)(h:o4 P σ t a=some p):o4 P (σ++hs) t a=some p:=
 Y9 h fun id e=>by
  rw[yAg (ZA h e)]
theorem aHz{t:TypeId}{a p:PD}{σ':List aB}(hs:List aB)(h:mC P fl σ t a p=some σ'):mC P fl (σ++hs) t a p=some (σ'++hs):=by
 unfold mC at h ⊢
 split at h
 ·rename_i id off
  by_cases h1:fl<=id
  ·rw[if_pos h1]at h ⊢
   cases hq:σ[id]? with
   |none=>simp[hq]at h
   |some o=>
    have hlt:id<σ.length:=(yA.1 hq).1
    rw[yAg hlt,hq]
    rw[hq]at h
    cases o with
    |box q=>
     cases hz:bT P t with
     |none=>rw[hz]at h;cases h
     |some n=>
      rw[hz]at h
      simp only at h ⊢
      split at h
      ·rename_i hc
       rw[if_pos hc]
       cases hset:q.setCells off p.cells with
       |none=>rw[hset]at h;cases h
       |some q'=>
        rw[hset]at h
        simp only[yAb]at h ⊢
        subst h
        rw[List.set_append_left _ _ hlt]
      ·cases h
    |_=>cases h
  ·rw[if_neg h1]at h;cases h
 ·rename_i id ver off
  by_cases h1:fl<=id
  ·rw[if_pos h1]at h ⊢
   cases hq:σ[id]? with
   |none=>simp[hq]at h
   |some o=>
    have hlt:id<σ.length:=(yA.1 hq).1
    rw[yAg hlt,hq]
    rw[hq]at h
    cases o with
    |row e sz eR cs=>
     cases hz:bT P t with
     |none=>rw[hz]at h;cases h
     |some n=>
      rw[hz]at h
      simp only at h ⊢
      split at h
      ·rename_i hc
       rw[if_pos hc]
       simp only[yAb]at h ⊢
       subst h
       rw[List.set_append_left _ _ hlt]
      ·cases h
    |_=>cases h
  ·rw[if_neg h1]at h;cases h
 ·cases h
theorem MO(hU:aI E){n:Nat}{ops:Array Oper}(ms:List Nat)(hsh:∀(i:Nat) o,ops[i]?=some o->(jR o.op||gX o.op||dM o.op||qS o.op||eH o.op)=true)(hno:BB ops=true)(hsu:RA ops=true) :
  ∀(l:List Oper) (i:Nat) (fr:List PD) (σ:List aB) (x:List PD×List aB),ops.toList.drop i=l->gF P (lQ E) fl ops l fr σ=some x ->
   ∃hs tr,oB P l=some hs/\jC P (iP P E n) fl ops ms i σ.length l fr (σ++hs)=some (tr,x.1,x.2)
 | [],_,fr,σ,x,_,h=>by
   simp only[gF,yAb]at h
   subst h
   exact⟨[],[],rfl,by simp[jC]⟩
 |o::l,i,fr,σ,x,hd,h=>by
  have ho:ops[i]?=some o:=by
   have:=congrArg List.head? hd
   rw[List.head?_drop]at this
   simpa using this
  have hd':ops.toList.drop (i+1)=l:=by rw[<-List.drop_drop,hd];rfl
  have hmem:o∈ops.toList:=Array.mem_toList_iff.2 (Array.mem_of_getElem? ho)
  have hshape:=hsh i o ho
  have hown:=yAn.1 hno o hmem
  have hsure:=yAn.1 hsu o hmem
  simp only[gF]at h
  by_cases hal:dM o.op=true
  ·have hg:o.guard=none:=by
    rw[hal]at hsure
    simpa using hsure
   have hw:Region.wanted o (bI ops fr)=true:=by simp[Region.wanted,hg]
   rw[if_pos hw]at h
   obtain⟨t,ht⟩:∃t,o.op=.alloc t:=by
    unfold dM at hal
    split at hal
    ·rename_i t e;exact⟨t,e⟩
    ·cases hal
   rw[ht]at h
   have hst:cP P (lQ E) fl fr σ (.alloc t)=(match eE P t with|some p=>if p.cells.all PD.plain then some (.ptr σ.length 0,σ++[.box (boxed t p)])else none|none=>none):=rfl
   rw[hst]at h
   cases hz:eE P t with
   |none=>rw[hz]at h;cases h
   |some p0=>
    rw[hz]at h
    simp only at h
    by_cases hp:p0.cells.all PD.plain=true
    ·rw[if_pos hp]at h
     simp only at h
     obtain⟨hs,tr,e1,e2⟩:=MO hU (n:=n) ms hsh hno hsu l (i+1) _ _ x hd' h
     refine⟨.box (boxed t p0)::hs,⟨fr,σ++.box (boxed t p0)::hs,.ptr σ.length 0,qV fr o.op⟩::tr,?_,?_⟩
     ·unfold oB
      rw[ht]
      simp only[hz,e1,hp,if_true]
     ·simp only[jC,hw,if_true,hal]
      have hA:jR o.op=false:=by rw[ht];rfl
      have hp':nS P (iP P E n) fl (lD ops.toList ms i) σ.length fr (σ++.box (boxed t p0)::hs) o.op=some (.ptr σ.length 0,σ++.box (boxed t p0)::hs):=by
       unfold nS
       rw[hA,hal]
       simp
      rw[hp']
      simp only
      rw[yAa,List.length_singleton,yAi,List.singleton_append]at e2
      rw[e2]
    ·rw[if_neg hp]at h;cases h
  ·simp only[Bool.not_eq_true]at hal
   have hho:∀hs,oB P l=some hs->oB P (o::l)=some hs:=fun hs e=>by
    unfold oB
    split
    ·rename_i t ht;rw[ht]at hal;cases hal
    ·exact e
   by_cases hw:Region.wanted o (bI ops fr)=true
   ·rw[if_pos hw]at h
    cases hp:cP P (lQ E) fl fr σ o.op with
    |none=>rw[hp]at h;cases h
    |some q=>
     obtain⟨p,σ1⟩:=q
     rw[hp]at h
     simp only at h
     obtain⟨hs,tr,e1,e2⟩:=MO hU (n:=n) ms hsh hno hsu l (i+1) _ _ x hd' h
     have key:nS P (iP P E n) fl (lD ops.toList ms i) σ.length fr (σ++hs) o.op=some (p,σ1++hs)/\σ1.length=σ.length:=by
      have hpd:=YV (P:=P) (call:=iP P E n) (fl:=fl) (k:=σ.length) (free:=lD ops.toList ms i) (fr:=fr) (σ:=σ++hs) hshape hal
      rw[hpd]
      by_cases hm:fM o.op=true
      ·obtain⟨_,e3⟩:=aAE (P:=P) hU (dP:=fl) (σ2:=σ++hs) hown hm hp
       simp only at e3
       subst e3
       have e4:=fun f=>LN (n:=n) (aAE (P:=P) hU (dP:=f) (σ2:=σ1++hs) hown hm hp).1
       simp only at e4
       cases(!fM o.op||lD ops.toList ms i)with
       |true=>exact⟨e4 fl,rfl⟩
       |false=>
        simp only
        rw[e4]
        simp
      ·simp only[Bool.not_eq_true]at hm
       have hm2:=hm
       rw[hm]
       simp only[Bool.not_false,Bool.true_or]
       rw[YL (call':=lQ E) hm]
       unfold cP pop at hp ⊢
       have hcal:iU fr o.op=none:=by
        cases hop:o.op with
        |call c=>
         obtain⟨callee,args,ts⟩:=c
         rw[hop]at hm2
         cases callee with
         |value f=>simp[fM]at hm2
         |invoke r m=>rfl
         |builtin b=>rfl
        |_=>rfl
       rw[hcal]at hp ⊢
       simp only at hp ⊢
       cases hv:eP P fr o.op with
       |some q=>
        rw[hv]at hp
        simp only[yAb,yAc]at hp ⊢
        obtain⟨rfl,rfl⟩:=hp
        exact⟨⟨rfl,rfl⟩,rfl⟩
       |none=>
        rw[hv]at hp
        simp only at hp ⊢
        have aHA:gX o.op=true\/qS o.op=true\/lE o.op=true\/jR o.op=true:=by
         simp only[hal,eH,hm2,Bool.or_false,Bool.or_eq_true]at hshape
         rcases hshape with((h|h)|h)|h
         ·exact .inr (.inr (.inr h))
         ·exact .inl h
         ·exact .inr (.inl h)
         ·exact .inr (.inr (.inl h))
        rcases aHA with hl|hl|hl|hl
        ·cases hop:o.op with
         |load t y=>
          rw[hop]at hp
          simp only[dL]at hp ⊢
          cases he:bB fr y with
          |none=>rw[he]at hp;cases hp
          |some a=>
           rw[he]at hp
           simp only at hp ⊢
           cases hlo:o4 P σ t a with
           |none=>rw[hlo]at hp;cases hp
           |some q=>
            rw[hlo]at hp
            rw[aHy hs hlo]
            simp only[yAb,yAc]at hp ⊢
            obtain⟨rfl,rfl⟩:=hp
            exact⟨⟨rfl,rfl⟩,rfl⟩
         |convert s d y=>
          rw[hop]at hp
          simp only[dL]at hp ⊢
          split at hp
          ·rename_i htc
           rw[if_pos htc]
           split at hp
           ·rename_i ad had
            split at hp
            ·simp only[yAb,yAc]at hp ⊢
             exact⟨⟨hp.1,by rw[hp.2]⟩,by rw[hp.2]⟩
            ·split at hp
             ·rename_i q hq
              obtain⟨xs,hxs⟩:=QB hq
              rw[ZC (σ':=σ++hs) hq (fun id hid=>yAg (ZB hxs hid))]
              simp only[yAb,yAc]at hp ⊢
              exact⟨⟨hp.1,by rw[hp.2]⟩,by rw[hp.2]⟩
             ·cases hp
           ·cases hp
          ·cases hp
         |_=>rw[hop]at hl;simp[gX]at hl
        ·cases hop:o.op with
         |buildSlice t len parts=>
          rw[hop]at hp
          simp only[dL]at hp ⊢
          cases hps:o5 fr parts.toList with
          |none=>rw[hps]at hp;cases hp
          |some ps=>
           rw[hps]at hp
           simp only at hp ⊢
           cases hq:gG P t len (List.map (fun q=>(q.fst,q.snd.strip)) ps)with
           |none=>rw[hq]at hp;cases hp
           |some q=>
            rw[hq]at hp
            simp only[yAb,yAc]at hp ⊢
            obtain⟨rfl,rfl⟩:=hp
            exact⟨⟨rfl,rfl⟩,rfl⟩
         |_=>rw[hop]at hl;simp[qS]at hl
        ·cases hop:o.op with
         |store t y z=>
          rw[hop]at hp
          simp only[dL]at hp ⊢
          cases he:bB fr y with
          |none=>rw[he]at hp;cases hp
          |some a=>
           cases hez:bB fr z with
           |none=>rw[he,hez]at hp;cases hp
           |some b=>
            rw[he,hez]at hp
            simp only at hp ⊢
            cases hst:mC P fl σ t a b with
            |none=>rw[hst]at hp;cases hp
            |some q=>
             rw[hst]at hp
             rw[aHz hs hst]
             simp only[yAb,yAc]at hp ⊢
             obtain⟨rfl,rfl⟩:=hp
             refine⟨⟨rfl,rfl⟩,?_⟩
             unfold mC at hst
             split at hst
             ·split at hst
              ·split at hst
               ·split at hst
                ·split at hst
                 ·simp only[yAb]at hst;subst hst;simp
                 ·cases hst
                ·cases hst
               ·cases hst
              ·cases hst
             ·split at hst
              ·split at hst
               ·split at hst
                ·simp only[yAb]at hst;subst hst;simp
                ·cases hst
               ·cases hst
              ·cases hst
             ·cases hst
         |_=>rw[hop]at hl;simp[lE]at hl
        ·rw[YU hl]at hp;cases hp
     refine⟨hs,⟨fr,σ++hs,p,qV fr o.op⟩::tr,hho hs e1,?_⟩
     simp only[jC,hw,if_true,hal,yAx,if_false]
     rw[key.1]
     simp only
     rw[key.2]at e2
     rw[e2]
   ·simp only[Bool.not_eq_true]at hw
    rw[hw]at h
    simp only[yAx,if_false]at h
    obtain⟨hs,tr,e1,e2⟩:=MO hU (n:=n) ms hsh hno hsu l (i+1) _ _ x hd' h
    refine⟨hs,⟨fr,σ++hs,.aH [],none⟩::tr,hho hs e1,?_⟩
    simp only[jC,hw,yAx,if_false,hal]
    rw[e2]
theorem aHB(hU:aI E){n:Nat}{ops:Array Oper}{x:List PD×List aB}(hs:(RB ops&&BB ops&&RA ops)=true)(h:gF P (lQ E) fl ops ops.toList fr σ=some x):tE P (iP P E n) fl ops fr σ=some x:=by
 simp only[yAr,RB]at hs
 obtain⟨⟨h1,h2⟩,h3⟩:=hs
 rw[D4]at h1
 simp only[yAr]at h1
 obtain⟨hreg,hfeet⟩:=h1
 have hr:=LQ hreg
 obtain⟨hs,tr,e1,e2⟩:=MO (n:=n) hU (cN ops.toList []) (fun i o ho=>hr.shape i o ho) h2 h3 ops.toList 0 fr σ x (by simp) h
 unfold tE
 simp only[hreg,if_true,e1,e2]
 have hfo:tI ops.toList (cN ops.toList []) tr=true:=by
  simp only[tI,yAn,List.mem_range]
  simp only[yAn,List.mem_range]at hfeet
  intro k hk
  have h1:=hfeet k (by simpa using hk)
  cases hs:lC lE ops.toList k with
  |false=>simp
  |true=>
   rw[hs]at h1
   simp only[Bool.not_true,Bool.false_or,yAn,List.mem_range]at h1 ⊢
   intro i hi
   have h2:=h1 i (by simpa using hi)
   rw[h2]
   simp
 rw[if_pos hfo]
theorem WL.YB:True:=trivial
theorem WL.YA{rd:Option Nat}{ms:List Nat}{Q:PO->Prop}{ops:Array Oper}{id:Nat}{y:Code}(hU:aI E)(_hd:yM ops=true)(hs:(RB ops&&BB ops&&RA ops)=true)(h:SQ P (lQ E) fl ops ops.toList fr σ (fun fr' σ'=>Wp P E rd y fl fr' ms σ' Q)) :
  Wp P E rd (.seq (.region id ops true) y) fl fr ms σ Q:=by
 obtain⟨fr',σ',h1,h2⟩:=h.ex
 exact .seq ⟨_,.draw (N:=0) (fun n _=>aHB hU hs h1),.normal h2⟩
end
end
section
open Go
abbrev tQ:=Nat->Option Nat
def aHC:Op->Option Tmp
 |.fieldAddr _ (.tmp u) _=>some u
 |.nilCheck (.tmp u)=>some u
 |.move (.tmp u)=>some u
 |_=>none
def tQ.next(ρ:tQ)(o:Oper):tQ:=match o.dst with
 |none=>ρ
 |some d=>fun t=>if d=t then(match aHC o.op with
  |some u=>ρ u
  |none=>none)else ρ t
def tQ.kU(ρ:tQ):Op->Option Nat
 |.load _ (.tmp t)=>ρ t
 |.store _ (.tmp t) _=>ρ t
 |_=>none
def tQ.ok(ρ:tQ)(fr:List PD):Prop:=∀t id id',ρ t=some id->nU (fr.getD t (.aH []))=some id'->id'=id
def tQ.of:List (Nat×Nat)->tQ
 | []=>fun _=>none
 |x::l=>fun t=>if x.1=t then some x.2 else tQ.of l t
def tQ.at(fr:List PD):List (Nat×Nat)->Prop
 | []=>True
 |x::l=>(∃off,lk fr x.1=some (.ptr x.2 off))/\tQ.at fr l
section
variable{P:Program}{call:dD}{fl:Nat}{ops:Array Oper}
end
section
variable{P:Program}{E:aD}{fl:Nat}{fr:List PD}{σ:List aB}
end
end
section
open Go
def RC(P:Program)(u:TypeId):Bool:=match P.underlying u with
 |some .string=>true
 |_=>false
section
variable{P:Program}{call:dD}{fl:Nat}{ops:Array Oper}{l:List Oper}{fr aL:List PD}{σ σ1:List aB}{K:List PD->List aB->Prop}
variable{dst:Option Tmp}{x y:Operand}{t u ty:TypeId}{pos:String}{edges:Array Edge}{guard:Option (Nat×Bool)}{p r:PD}{bs:List UInt8}
theorem SQ.K6(hub:(RC P u&&p6 P t)=true)(hw:Region.wanted ⟨dst,.call { callee:=.builtin .append,args:=#[x,y],argTypes:=#[t,u] },ty,pos,edges,guard⟩ (bI ops fr)=true)(hx:bU fr x=some p)(hy:bU fr y=some (.str bs))
  (hr:(if iF t fr.length=true then dS P fr.length fl σ t p (wF bs)else fZ P fl σ t p (wF bs))=some (r,σ1)) (hf:bE fr dst r=aL) (k:SQ P call fl ops l aL σ1 K):SQ P call fl ops (⟨dst,.call { callee:=.builtin .append,args:=#[x,y],argTypes:=#[t,u] },ty,pos,edges,guard⟩::l) fr σ K:=by
 simp only[yAr]at hub
 have hu:P.underlying u=some .string:=by
  have:=hub.1
  unfold RC at this
  split at this
  ·assumption
  ·cases this
 have hne:t≠u:=by
  rintro rfl
  have:=hub.2
  unfold p6 at this
  rw[hu]at this
  cases this
 refine .step hw (tB rfl ?_ ?_) (hf▸k)
 ·simp only[eP,gW,dV hx,dV hy,uJ]
 ·simp only[dL,gW,dV hx,dV hy,hne,if_false,hu,hub.2,if_true]
  unfold wF at hr
  by_cases hm:iF t fr.length=true
  ·rw[if_pos hm]at hr
   rw[hr]
  ·rw[if_neg hm]at hr
   have:dS P fr.length fl σ t p (.slice (if bs.length=0 then 0 else 1) (bs.map fun b=>.int .u8 b.toNat) .any)=none:=by unfold dS;rw[if_neg hm]
   rw[this]
   exact hr
theorem SL.K6(hub:(RC P u&&p6 P t)=true)(hw:Wt (Region.wanted ⟨dst,.call { callee:=.builtin .append,args:=#[x,y],argTypes:=#[t,u] },ty,pos,edges,guard⟩ (bI ops fr)=true))(hx:bU fr x=some p)(hy:bU fr y=some (.str bs))
  (hr:By ((if iF t fr.length=true then dS P fr.length fl σ t p (wF bs)else fZ P fl σ t p (wF bs))=some (r,σ1))) (hf:Fr (bE fr dst r=aL)) (k:SQ P call fl ops l aL σ1 K):SQ P call fl ops (⟨dst,.call { callee:=.builtin .append,args:=#[x,y],argTypes:=#[t,u] },ty,pos,edges,guard⟩::l) fr σ K:=SQ.K6 hub hw.h hx hy hr.h hf.h k
def RD(P:Program)(u:TypeId):Bool:=match P.underlying u with
 |some (.int .i64)=>true
 |_=>false
theorem SQ.K7{m:Int}(hub:(RD P u&&p6 P t)=true)(hw:Region.wanted ⟨dst,.call { callee:=.builtin .append,args:=#[x,y],argTypes:=#[t,u] },ty,pos,edges,guard⟩ (bI ops fr)=true)(hx:bU fr x=some p)(hy:bU fr y=some (.int .i64 m))
  (hr:yR P fr.length σ t p m=some (r,σ1)) (hf:bE fr dst r=aL) (k:SQ P call fl ops l aL σ1 K):SQ P call fl ops (⟨dst,.call { callee:=.builtin .append,args:=#[x,y],argTypes:=#[t,u] },ty,pos,edges,guard⟩::l) fr σ K:=by
 simp only[yAr]at hub
 have hu:P.underlying u=some (.int .i64):=by
  have:=hub.1
  unfold RD at this
  split at this
  ·assumption
  ·cases this
 have hne:t≠u:=by
  rintro rfl
  have:=hub.2
  unfold p6 at this
  rw[hu]at this
  cases this
 refine .step hw (tB rfl ?_ ?_) (hf▸k)
 ·simp only[eP,gW,dV hx,dV hy,uJ]
 ·simp only[dL,gW,dV hx,dV hy,hne,if_false,hu]
  exact hr
theorem SL.K7{m:Int}(hub:(RD P u&&p6 P t)=true)(hw:Wt (Region.wanted ⟨dst,.call { callee:=.builtin .append,args:=#[x,y],argTypes:=#[t,u] },ty,pos,edges,guard⟩ (bI ops fr)=true))(hx:bU fr x=some p)(hy:bU fr y=some (.int .i64 m))
  (hr:By (yR P fr.length σ t p m=some (r,σ1))) (hf:Fr (bE fr dst r=aL)) (k:SQ P call fl ops l aL σ1 K):SQ P call fl ops (⟨dst,.call { callee:=.builtin .append,args:=#[x,y],argTypes:=#[t,u] },ty,pos,edges,guard⟩::l) fr σ K:=SQ.K7 hub hw.h hx hy hr.h hf.h k
theorem SQ.PL{f:FuncId}(hw:Region.wanted ⟨dst,.makeFunc (.func f) #[x] #[],ty,pos,edges,guard⟩ (bI ops fr)=true)(hx:bU fr x=some p)(hf:bE fr dst (.dA f [p])=aL)(k:SQ P call fl ops l aL σ K) :
  SQ P call fl ops (⟨dst,.makeFunc (.func f) #[x] #[],ty,pos,edges,guard⟩::l) fr σ K:=
 .step hw (o6 rfl (by
  have h:gW fr (#[x]:Array Operand).toList=some [p]:=by
   show gW fr [x]=some [p]
   unfold gW
   rw[dV hx]
   rfl
  show(if (#[x]:Array Operand).size=0 then(match gW fr (#[]:Array Operand).toList with|some ps=>some (PD.func f ps)|none=>none)else if (#[]:Array Operand).size=0 then(match gW fr (#[x]:Array Operand).toList with|some ps=>some (PD.dA f ps)|none=>none)else none)=_
  rw[if_neg (by simp),if_pos (by rfl),h])) (hf▸k)
theorem SL.PL{f:FuncId}(hw:Wt (Region.wanted ⟨dst,.makeFunc (.func f) #[x] #[],ty,pos,edges,guard⟩ (bI ops fr)=true))(hx:bU fr x=some p)(hf:Fr (bE fr dst (.dA f [p])=aL))(k:SQ P call fl ops l aL σ K) :
  SQ P call fl ops (⟨dst,.makeFunc (.func f) #[x] #[],ty,pos,edges,guard⟩::l) fr σ K:=SQ.PL hw.h hx hf.h k
theorem SQ.K8{g:Operand}{args:Array Operand}{ts:Array TypeId}{f:FuncId}{first ps:List PD}(hw:Region.wanted ⟨dst,.call { callee:=.value g,args:=args,argTypes:=ts },ty,pos,edges,guard⟩ (bI ops fr)=true)(hg:bU fr g=some (.dA f first))
  (hx:uI fr args.toList=some ps) (hr:call fl (.inl f) (first++ps) σ=some (r,σ1)) (hf:bE fr dst r=aL) (k:SQ P call fl ops l aL σ1 K):SQ P call fl ops (⟨dst,.call { callee:=.value g,args:=args,argTypes:=ts },ty,pos,edges,guard⟩::l) fr σ K:=by
 refine .step hw ?_ (hf▸k)
 simp only[cP,iU,dV hg,HC hx,hr]
theorem SL.K8{g:Operand}{args:Array Operand}{ts:Array TypeId}{f:FuncId}{first ps:List PD}(hw:Wt (Region.wanted ⟨dst,.call { callee:=.value g,args:=args,argTypes:=ts },ty,pos,edges,guard⟩ (bI ops fr)=true))(hg:bU fr g=some (.dA f first))
  (hx:uI fr args.toList=some ps) (hr:By (call fl (.inl f) (first++ps) σ=some (r,σ1))) (hf:Fr (bE fr dst r=aL)) (k:SQ P call fl ops l aL σ1 K):SQ P call fl ops (⟨dst,.call { callee:=.value g,args:=args,argTypes:=ts },ty,pos,edges,guard⟩::l) fr σ K:=SQ.K8 hw.h hg hx hr.h hf.h k
end
end
mutual
def PD.flat:PD->Bool
 |.bool _|.int _ _|.str _|.eN|.gU|.eV _=>true
 |.agg cs=>PD.B1 cs
 |.aH cs=>PD.B1 cs
 |_=>false
def PD.B1:List PD->Bool
 | []=>true
 |x::xs=>x.flat&&PD.B1 xs
end
theorem PD.aAF:∀xs:List PD,PD.B1 xs=xs.all PD.flat
 | []=>by simp[PD.B1]
 |x::xs=>by simp[PD.B1,PD.aAF xs]
theorem VR.flat{c c':Cx}{v:Value}{p:PD}(hv:VR c v p):p.flat=true->VR c' v p:=by
 have at_:∀ {ds:List PD} {i:Nat} {d:PD},PD.B1 ds=true->ds[i]?=some d->d.flat=true:=by
  intro ds i d h hd
  rw[PD.aAF]at h
  exact yAn.1 h d (yBe hd)
 induction hv with
 |bool b=>intro _;exact .bool b
 |int k n=>intro _;exact .int k n
 |str s=>intro _;exact .str s
 |agg cs ds hl h1 _ ih=>
  intro hp
  simp only[PD.flat]at hp
  exact .agg cs ds hl h1 (fun i v d hv hd=>ih i v d hv hd (at_ hp hd))
 |slice A n cap size xs tok dP hn hc hm hx hf h1 hcl _ ht ih=>intro hp;simp[PD.flat]at hp
 |ptr id off b hd hs hr=>intro hp;simp[PD.flat]at hp
 |dE id off n cap size b hd hs hr h1 h2=>intro hp;simp[PD.flat]at hp
 |aF id ver off n cap size b eQ h1 h2=>intro hp;simp[PD.flat]at hp
 |dQ id ver off b eQ=>intro hp;simp[PD.flat]at hp
 |fD id b hd hn hr=>intro hp;simp[PD.flat]at hp
 |iface t v p _ ih=>intro hp;simp[PD.flat]at hp
 |eF ad dP ds off hl h1 hcl _ ih=>intro hp;simp[PD.flat]at hp
 |eN=>intro _;exact .eN
 |func f cs ds hl _ ih=>intro hp;simp[PD.flat]at hp
 |dA f cs ds hl _ ih=>intro hp;simp[PD.flat]at hp
 |gU=>intro _;exact .gU
 |eV v h=>intro _;exact .eV v h
 |yield id l hd hn hr=>intro hp;simp[PD.flat]at hp
 |aH cs ds hl _ ih=>
  intro hp
  simp only[PD.flat]at hp
  exact .aH cs ds hl (fun i v d hv hd=>ih i v d hv hd (at_ hp hd))
def Cx.boxed(c:Cx)(a:Addr):Prop:=∃id p b,c.D id/\c.σ[id]?=some (.box p)/\c.ρ id=.pointer (some ⟨b,0,none⟩)/\a.block=b
def Cx.open(c:Cx):Cx:={ w:=c.w,ρ:=fun _=>undef,σ:=[],D:=fun _=>False,X:=fun a=>c.av a\/c.boxed a }
theorem Sr.open:True:=trivial
theorem WL.pair:True:=trivial
structure Hd (R:Prop):Prop where
 out:R
theorem aC{R G:Prop}(r:R)(h:Hd R->G:=by
  (intro hh
   (repeat(first
    |(refine Fr.i ?_;simp only[bE,List.set_cons_zero,List.set_cons_succ];try rfl)
    |(refine By.i ?_;(focus(simp(disch:=first|omega|(simp;done)|(simp;omega)) [wrap_i64,wrap_u64,gx,entry,uH,b9,fQ,D1];first|done|rfl|exact⟨rfl,rfl⟩)))
    |(refine By.i ?_;simp(disch:=first|omega|(simp;done)|(simp;omega)) [wrap_i64,wrap_u64,gx,entry,uH,b9,fQ,D1];refine⟨(by(try simp only[yAa,List.length_cons,List.length_nil,maxLen]);omega),rfl⟩)
    |(refine Wt.i ?_;first|rfl|(focus(simp[gx,entry,uH,b9,fQ,D1];done)))
    |(refine Ns.i ?_;(try simp only[yAl,List.nil_append,List.cons_append,yAi,yAa,List.length_cons,List.length_nil,yAp,Nat.reduceAdd]);rfl)|rfl
    |(apply SL.pass;(focus(refine Wt.i ?_;rfl)))|(apply SL.K6;(focus decide +kernel))|(apply SL.G4;(focus rfl))|apply SL.move|apply SL.assign|apply SL.load|apply SL.D2|apply SL.G5|apply SL.make
    |apply SL.binOp|apply SL.append|(apply SL.K7;(focus decide +kernel))|apply SL.copy|apply SL.builtin|apply SL.fieldAddr|apply SL.indexAddr|apply SL.field|apply SL.extract|(apply SL.K8;rotate_left;(focus rfl);rotate_right)|apply SL.D3|apply SL.pick|apply SL.store|apply SL.unOp|apply SL.convert|apply SL.index
    |apply SL.slice|apply SL.build|apply SL.nilCheck|apply SL.buildSlice|apply SL.box|apply SL.alloc|apply SL.makeFunc|apply SL.PL|apply SQ.nil|(apply WL.X5;(focus decide +kernel))
    |(apply WL.G6 (by assumption);(focus decide +kernel);(focus decide +kernel))|(apply WL.K9;(focus decide +kernel);(focus decide +kernel))|(apply WL.PM;(focus decide +kernel))
    |(apply WL.X6 (by assumption);(focus decide +kernel);(focus decide +kernel))|(apply WL.X7;(focus decide +kernel);(focus decide +kernel))|(apply WL.X8 (by assumption);(focus decide +kernel);(focus decide +kernel))
    |(apply WL.X9 (by assumption);(focus decide +kernel);(focus decide +kernel))|(apply WL.YA (by assumption);(focus decide +kernel);(focus decide +kernel))
    |(apply WL.YB (by assumption);(focus decide +kernel);(focus decide +kernel))|apply WL.skip|(apply WL.ct;(focus rfl))|(apply WL.cf;(focus rfl))|refine kI.normal ?_|refine kI.ret ?_|refine kI.exit ?_
    |refine mQ.normal ?_|refine mQ.ret ?_|refine mQ.here ?_|refine mQ.there (by decide) ?_|refine Wp.block ?_|refine Wp.skip ?_|refine Wp.ret ?_|refine Wp.exit ?_|refine bP.ret ?_|refine bP.exit ?_
    |refine vV.normal ?_|refine vV.ret ?_|refine vV.exit ?_|refine Wp.seq (Wp.seq ?_)|refine Wp.seq (Wp.block ?_)|(refine Wp.seq ?_;apply WL.ct;(focus rfl))|(refine Wp.seq ?_;apply WL.cf;(focus rfl))))
   exact hh.out)):G:=h ⟨r⟩
theorem iN{R G:Prop}(r:R)(h:Hd R->G:=by
  (intro hh
   (repeat(first
    |(refine By.i ?_;(focus assumption))|(refine Fr.i ?_;simp only[bE,List.set_cons_zero,List.set_cons_succ];try rfl)
    |(refine By.i ?_;(focus(simp(disch:=first|omega|(simp;done)|(simp;omega)) [wrap_i64,wrap_u64,gx];first|done|rfl|exact⟨rfl,rfl⟩)))
    |(refine By.i ?_;simp(disch:=first|omega|(simp;done)|(simp;omega)) [wrap_i64,wrap_u64,gx];refine⟨(by(try simp only[yAa,List.length_cons,List.length_nil,maxLen]);omega),rfl⟩)
    |(refine Wt.i ?_;first|rfl|(focus(simp[gx];done)))
    |(refine Ns.i ?_;(try simp only[yAl,List.nil_append,List.cons_append,yAi,yAa,List.length_cons,List.length_nil,yAp,Nat.reduceAdd]);rfl)|rfl
    |(apply SL.pass;(focus(refine Wt.i ?_;rfl)))|(apply SL.K8;rotate_left;(focus rfl);rotate_right)|(apply SL.G4;(focus rfl))|apply SL.move|apply SL.assign|apply SL.load|apply SL.D2|apply SL.G5
    |apply SL.make|apply SL.binOp|apply SL.append|apply SL.copy|apply SL.builtin|apply SL.fieldAddr|apply SL.indexAddr|apply SL.field|apply SL.extract|apply SL.D3|apply SL.pick|apply SL.store|apply SL.unOp
    |apply SL.convert|apply SL.index|apply SL.slice|apply SL.build|apply SL.nilCheck|apply SL.buildSlice|apply SL.box|apply SL.alloc|apply SL.makeFunc))
   exact hh.out)):G:=h ⟨r⟩
theorem LA{R G:Prop}(r:R)(h:Hd R->G:=by
  (intro hh
   (repeat(first
    |(refine Fr.i ?_;simp only[bE,List.set_cons_zero,List.set_cons_succ];try rfl)
    |(refine By.i ?_;(focus(simp(disch:=first|omega|(simp;done)|(simp;omega)) [wrap_i64,wrap_u64,gx];first|done|rfl|exact⟨rfl,rfl⟩)))
    |(refine By.i ?_;simp(disch:=first|omega|(simp;done)|(simp;omega)) [wrap_i64,wrap_u64,gx];refine⟨(by(try simp only[yAa,List.length_cons,List.length_nil,maxLen]);omega),rfl⟩)
    |(refine Wt.i ?_;first|rfl|(focus(simp[gx];done)))
    |(refine Ns.i ?_;(try simp only[yAl,List.nil_append,List.cons_append,yAi,yAa,List.length_cons,List.length_nil,yAp,Nat.reduceAdd]);rfl)|rfl
    |(apply SL.pass;(focus(refine Wt.i ?_;rfl)))|(apply SL.G4;(focus rfl))|apply SL.move|apply SL.assign|apply SL.load|apply SL.D2|apply SL.G5|apply SL.make|apply SL.binOp|apply SL.append
    |apply SL.copy|apply SL.builtin|apply SL.fieldAddr|apply SL.indexAddr|apply SL.field|apply SL.extract|apply SL.D3|apply SL.pick|apply SL.store|apply SL.unOp|apply SL.convert|apply SL.index|apply SL.slice
    |apply SL.build|apply SL.nilCheck|apply SL.buildSlice|apply SL.box|apply SL.alloc|apply SL.makeFunc))
   exact hh.out)):G:=h ⟨r⟩
section
open Go
section
variable{P:Program}{call:dD}{fl:Nat}{ops:Array Oper}
end
section
variable{P:Program}{E:aD}{fl:Nat}{ops:Array Oper}
end
end
theorem aEj{F:Fence}{P:Program}(hF:Open F P)(m:Machine):m.fenced P F:=by
 intro g _
 refine⟨fun h=>?_,Or.inl (hF.fn _),fun _ _=>hF.fn _,fun _ h=>?_⟩
 ·rw[hF.alive]at h
  cases h
 ·rw[hF.depth]at h
  cases h
theorem aOC{F:Fence}{P:Program}(hF:Open F P){m m':Machine}{e:Ending}(h:Comes P m m' e):ComesIn (Machine.fenced P F) P m m' e:=by
 cases e with
 |returned v=>exact(StepsIn.of_steps h).mono fun m _=>aEj hF m
 |panicked chain=>exact(StepsIn.of_steps h).mono fun m _=>aEj hF m
 |outgrown=>exact h
theorem aOD{F:Fence}{P:Program}(hF:Open F P){n:Nat}{f:FuncId}{args:Array Value}{w:World}{R:Ending->World->Prop}(h:Calls P f args w R):CallsIn F n P f args w R:=
 ⟨hF.fn f,fun cs _=>let ⟨e,w',fr,r,s,x⟩:=h cs;⟨e,w',fr,r,aOC hF s,x⟩⟩
theorem aE.WI{P:Program}{E:aD}(hE:aE P E){f:FuncId}{g:Nat->List PD->List aB->Option (PD×List aB)}(hf:∃fn,P.funcs[f]?=some fn/\fn.body.isSome=true)
  (h:∀(fl:Nat) (args:List PD) (c:Cx) (vs:List Value) (p:PD) (σ':List aB),g fl args c.σ=some (p,σ')->Sr c->Xw fl c->aQ c vs args->Calls P f vs.toArray c.w (BN fl c p σ')):aE P (E.add f g):=by
 intro F fl f' g' args c vs p σ' hF hg hgo hs hX hv
 unfold aD.add at hg
 split at hg
 ·rename_i e
  subst e
  simp only[yAb]at hg;subst hg
  exact⟨hf,fun m=>aOD hF (h fl args c vs p σ' hgo hs hX hv)⟩
 ·exact hE hF hg hgo hs hX hv
theorem aE.O1{P:Program}{E:aD}(hE:aE P E){f:FuncId}{g:List PD->Option PD}(hf:∃fn,P.funcs[f]?=some fn/\fn.body.isSome=true)
  (h:∀(args:List PD) (c:Cx) (vs:List Value) (p:PD),g args=some p->Sr c->aQ c vs args->Calls P f vs.toArray c.w fun e w'=>∃v,e=.returned v/\c.w.grownBy w' none/\(Sr (c.at w')->VR (c.at w') v p)):aE P (E.add f (entry g)):=by
 refine hE.WI hf fun fl args c vs p σ' hg hs _ hv=>?_
 unfold entry at hg
 cases hga:g args with
 |none=>rw[hga]at hg;cases hg
 |some q=>
  rw[hga]at hg
  simp only[yAb,yAc]at hg
  obtain⟨rfl,rfl⟩:=hg
  refine Calls.mono (h args c vs q hga hs hv) fun e w' he=>?_
  obtain⟨v,rfl,hgr,hvv⟩:=he
  have hs':=hs.grow hgr
  exact⟨c.at w',rfl,rfl,hs',Nx.grow hs hgr,hvv hs',fun _ h=>.inl h⟩
theorem aOc(w:World):w.grownBy w none:=⟨rfl,rfl,rfl,yAk _,fun _ _ _=>rfl⟩
theorem WJ{c:Cx}{vs:List Value}{p:PD}(h:aQ c vs [p]):∃v,vs=[v]/\VR c v p:=by
 match vs,h.1 with
 | [v],_=>exact⟨v,rfl,h.2 0 _ _ rfl rfl⟩
theorem O2{c:Cx}{vs:List Value}{p q:PD}(h:aQ c vs [p,q]):∃v u,vs=[v,u]/\VR c v p/\VR c u q:=by
 match vs,h.1 with
 | [v,u],_=>exact⟨v,u,rfl,h.2 0 _ _ rfl rfl,h.2 1 _ _ rfl rfl⟩
theorem VR.int_eq{c:Cx}{v:Value}{k:IntKind}{n:Int}(h:VR c v (.int k n)):v=.int k n:=by cases h;rfl
theorem VR.WD{c:Cx}{v:Value}{s:List UInt8}(h:VR c v (.str s)):v=.string ⟨s.toArray⟩:=by cases h;rfl
section
section
variable{c:Cx}{w':World}{id n cap g size:Nat}{e:TypeId}{cur:Array Value}{fz KC:Nat×Nat}
theorem aOE(hg:c.w.heap[g]?=some (.cells cur e fz))(h1:∀k,k≠g->w'.heap[k]?=c.w.heap[k]?)(h2:w'.heap[g]?=some (.cells cur e KC))(a:Addr):w'.cell? a=c.w.cell? a:=by
 unfold World.cell?
 by_cases h:a.block=g
 ·rw[h,hg,h2]
 ·rw[h1 _ h]
theorem Nx.O3{fl:Nat}(hd:c.D id)(hρ:c.ρ id=.slice (some ⟨g,0,none⟩) n cap)(hfl:fl<=id)(hg:c.w.heap[g]?=some (.cells cur e fz))
  (h0:w'.os=c.w.os/\w'.tape=c.w.tape/\w'.output=c.w.output/\w'.heap.size=c.w.heap.size) (h1:∀k,k≠g->w'.heap[k]?=c.w.heap[k]?) (h2:w'.heap[g]?=some (.cells cur e KC)):Nx fl c (c.at w') where
 X:=rfl
 os:=h0.1
 tape:=h0.2.1
 output:=h0.2.2.1
 size:=Nat.le_of_eq h0.2.2.2.symm
 len:=yAk _
 cell:=fun a v ha hv=>⟨ha,by show w'.cell? a=_;rw[aOE hg h1 h2];exact hv⟩
 bF:=fun _ h=>h
 new:=fun _ h=>.inl h
 qW:=fun _ p _ h=>⟨rfl,p,h⟩
 mE:=fun _ _ h=>⟨rfl,h⟩
 rU:=fun _ _ _ n _ h=>⟨n,h,yAk _,fun _=>rfl⟩
 rV:=fun _ _ _ v cs _ h=>⟨v,cs,h,yAk _,fun _=>rfl⟩
 back:=fun _ _ h h' _=>⟨h,h'⟩
 frame:=fun k _ hx=>h1 k fun e=>hx id hd hfl (by rw[hρ,e];rfl)
 ro:=fun _ _ _=>rfl
 hole:=fun _ _ _=>rfl
theorem Sr.O3(hs:Sr c)(hd:c.D id)(hq:c.σ[id]?=some (.own e size n))(hρ:c.ρ id=.slice (some ⟨g,0,none⟩) n cap)(hg:c.w.heap[g]?=some (.cells cur e fz))
  (h0:w'.os=c.w.os/\w'.tape=c.w.tape/\w'.output=c.w.output/\w'.heap.size=c.w.heap.size) (h1:∀k,k≠g->w'.heap[k]?=c.w.heap[k]?) (h2:w'.heap[g]?=some (.cells cur e KC)) (h3:KC.2<=n*size):Sr (c.at w'):=by
 have hb:aV (c.ρ id)=some g:=by rw[hρ];rfl
 have nx:Nx 0 c (c.at w'):=Nx.O3 hd hρ (yBf _) hg h0 h1 h2
 have far:∀i b,c.D i->i≠id->aV (c.ρ i)=some b->w'.heap[b]?=c.w.heap[b]?:=fun i b hi hne hbi=>h1 b fun e'=>hs.inj i id b hi hd hne hbi (by rw[e'];exact hb)
 have hne:∀i (o:aB),c.σ[i]?=some o->(∀e s m,o≠.own e s m)->i≠id:=fun i o ho hno e'=>by
  subst e'
  rw[hq]at ho
  simp only[yAb]at ho
  exact hno _ _ _ ho.symm
 refine⟨?_,?_,?_,?_,?_,?_,hs.inj,?_,hs.bF,?_,hs.jZ.mono nx⟩
 ·intro i p hi hp
  obtain⟨b',cs',T',e1,e2,e3,e4⟩:=hs.box i p hi hp
  exact⟨b',cs',T',e1,by show w'.heap[b']?=_;rw[far i b' hi (hne i _ hp (fun _ _ _ e=>by cases e)) (by rw[e1];rfl)];exact e2,e3.mono nx,e4⟩
 ·intro i e0 s m hi ho
  by_cases hii:i=id
  ·subst hii
   have ho':c.σ[i]?=some (.own e0 s m):=ho
   rw[hq]at ho'
   simp only[yAb,aB.own.injEq]at ho'
   obtain⟨rfl,rfl,rfl⟩:=ho'
   obtain⟨xs,hx⟩:=hs.own i _ _ _ hi hq
   refine⟨xs,hx.1,?_⟩
   rcases hx.2 with hv | ⟨g1,aTd,aG6,fz1,hv,cY,lV,_,r⟩
   ·rw[hρ]at hv
    simp at hv
   ·rw[hρ]at hv
    simp only[Value.slice.injEq,yAb,Addr.mk.injEq,and_true]at hv
    obtain⟨rfl,_,rfl⟩:=hv
    rw[hg]at lV
    simp only[yAb,Obj.cells.injEq]at lV
    obtain⟨rfl,_,rfl⟩:=lV
    exact .inr ⟨g,cap,cur,KC,hρ,cY,h2,h3,r⟩
  ·obtain⟨xs,hx⟩:=hs.own i e0 s m hi ho
   exact⟨xs,y9 hx (fun g' hg'=>far i g' hi hii hg')⟩
 ·intro i e0 sz ver ds hi ho
  obtain⟨b',C,cur,e1,e2,e3,e4,e5,e6,e7,e8⟩:=hs.row i e0 sz ver ds hi ho
  exact⟨b',C,cur,e1,by show w'.heap[b']?=_;rw[far i b' hi (hne i _ ho (fun _ _ _ e=>by cases e)) (by rw[e1];rfl)];exact e2,e3,e4,e5,e6,e7.mono nx,e8⟩
 ·intro i es hi ho
  obtain⟨b',ents,clock,e1,e2,e3,e4⟩:=hs.map i es hi ho
  exact⟨b',ents,clock,e1,by show w'.heap[b']?=_;rw[far i b' hi (hne i _ ho (fun _ _ _ e=>by cases e)) (by rw[e1];rfl)];exact e2,e3.mono nx,e4.mono nx⟩
 ·intro i hi hm
  obtain⟨b',e1,e2⟩:=hs.mark i hi hm
  exact⟨b',e1,by show w'.heap[b']?=_;rw[far i b' hi (hne i _ hm (fun _ _ _ e=>by cases e)) (by rw[e1];rfl)];exact e2⟩
 ·intro i st fr ps asg bd hi hm
  obtain⟨b',r,e1,e2,e3,e4,e5,e6,e7⟩:=hs.loop i st fr ps asg bd hi hm
  exact⟨b',r,e1,by show w'.heap[b']?=_;rw[far i b' hi (hne i _ hm (fun _ _ _ e=>by cases e)) (by rw[e1];rfl)];exact e2,e3,e4,e5,e6.mono nx,e7⟩
 ·intro i b hi hbi
  show b<w'.heap.size
  rw[h0.2.2.2]
  exact hs.lt i b hi hbi
 ·intro a ha
  have:w'.heap.size<=a.block:=ha
  rw[h0.2.2.2]at this
  exact hs.fresh a this
end
def KB:List PD->Option (List UInt8)
 | []=>some []
 |.int .u8 n::r=>if 0<=n/\n<256 then(match KB r with|some l=>some (UInt8.ofNat n.toNat::l)|none=>none)else none
 |_=>none
theorem aEg:∀ {xs:List PD} {l:List UInt8},KB xs=some l->xs=l.map fun b=>PD.int .u8 b.toNat
 | [],l,h=>by simp only[KB,yAb]at h;subst h;rfl
 |x::r,l,h=>by
  unfold KB at h
  split at h
  ·cases ‹_::_=[]›
  ·rename_i n r' heq
   simp only[List.cons.injEq]at heq
   obtain⟨rfl,rfl⟩:=heq
   split at h
   ·rename_i hn
    split at h
    ·rename_i l' hl
     simp only[yAb]at h
     subst h
     rw[List.map_cons,<-aEg hl]
     congr 2
     have:(UInt8.ofNat n.toNat).toNat=n.toNat:=by
      simp only[UInt8.toNat_ofNat']
      omega
     omega
    ·cases h
   ·cases h
  ·cases h
end
def qF(n:Nat)(k:Nat)(cs:List PD):List PD:=if n=1 then cs.take k else mX n k cs
def bA(σ:List aB):Nat->PD->PD
 |0,p=>p
 |k+1,.agg cs=>.agg (cs.map (bA σ k))
 |k+1,.aH cs=>.aH (cs.map (bA σ k))
 |k+1,.slice n xs _=>.slice n (xs.map (bA σ k)) .any
 |k+1,.dE id off n sz=>match σ[id]? with
  |some (.box q)=>if off+n*sz<=q.cells.length then .slice sz (qF sz n ((q.cells.drop off).map (bA σ k))) .any else .dE id off n sz
  |_=>.dE id off n sz
 |k+1,.aF id ver off n sz=>match σ[id]? with
  |some (.row _ sz' eR cs)=>if eR=ver/\sz'=sz/\off+n*sz<=cs.length then .slice sz (qF sz n ((cs.drop off).map (bA σ k))) .any else .aF id ver off n sz
  |_=>.aF id ver off n sz
 |k+1,.iface t p=>.iface t (bA σ k p)
 |_+1,p=>p
theorem aAU(σ:List aB):∀(k:Nat) (p:PD),p.plain=true->(bA σ k p).plain=true
 |0,p,h=>h
 |k+1,p,h=>by
  cases p<;>simp only[bA]<;>first
   |rfl
   |exact h
   |(simp[PD.plain]at h;done)
   |(split
     ·split<;>rfl
     ·rfl)
theorem aHO(σ:List aB):∀(k:Nat) (p:PD) (j:Nat) (d:PD),(bA σ k p).cells[j]?=some d->∃k' d0,k'<=k/\p.cells[j]?=some d0/\d=bA σ k' d0
 |0,p,j,d,h=>⟨0,d,yAk _,h,rfl⟩
 |k+1,p,j,d,h=>by
  by_cases hty:∃t cs,p=.typed t cs
  ·obtain⟨t,cs,rfl⟩:=hty
   exact⟨0,d,yBf _,h,rfl⟩
  have hp:∀t cs,p≠.typed t cs:=fun t cs e=>hty ⟨t,cs,e⟩
  by_cases ha:∃cs,p=.agg cs
  ·obtain⟨cs,rfl⟩:=ha
   simp only[bA,PD.cells,yAo]at h
   cases hj:cs[j]? with
   |none=>rw[hj]at h;cases h
   |some d0=>
    rw[hj]at h
    simp only[yBc,yAb]at h
    exact⟨k,d0,by omega,by simpa [PD.cells]using hj,h.symm⟩
  ·have hpl:p.plain=true\/∃vs,p=.aH vs:=by
    cases p<;>first|exact .inl rfl|exact .inr ⟨_,rfl⟩ | exact absurd ⟨_,rfl⟩ ha|exact absurd rfl (hp _ _)
   have h1:p.cells=[p]:=by
    rcases hpl with h | ⟨vs,rfl⟩
    ·cases p<;>first|rfl|(simp[PD.plain]at h;done)
    ·rfl
   have h2:(bA σ (k+1) p).cells=[bA σ (k+1) p]:=by
    rcases hpl with h | ⟨vs,rfl⟩
    ·have:=aAU σ (k+1) p h
     generalize bA σ (k+1) p=q at *
     cases q<;>first|rfl|(simp[PD.plain]at this;done)
    ·rfl
   rw[h2]at h
   cases j with
   |zero=>
    simp only[List.getElem?_cons_zero,yAb]at h
    exact⟨k+1,p,yAk _,by rw[h1];rfl,h.symm⟩
   |succ j=>simp at h
theorem aAV(σ:List aB)(k:Nat)(p:PD):(bA σ k p).cells.length=p.cells.length:=by
 cases k with
 |zero=>rfl
 |succ k=>
  cases p<;>simp only[bA]<;>first
   |rfl
   |(simp[PD.cells];done)
   |(split
     ·split<;>rfl
     ·rfl)
theorem aAW(σ:List aB)(k:Nat):∀(xs:List PD) (j:Nat) (d:PD),((xs.map (bA σ k)).flatMap PD.cells)[j]?=some d->∃k' d0,k'<=k/\(xs.flatMap PD.cells)[j]?=some d0/\d=bA σ k' d0
 | [],j,d,h=>by simp at h
 |x::xs,j,d,h=>by
  simp only[List.map_cons,List.flatMap_cons]at h ⊢
  have hl:=aAV σ k x
  rw[List.getElem?_append]at h ⊢
  rw[hl]at h
  split at h
  ·rename_i hj
   rw[if_pos hj]
   exact aHO σ k x j d h
  ·rename_i hj
   rw[if_neg hj]
   exact aAW σ k xs _ d h
theorem aHP{n k:Nat}{cs:List PD}(h:k*n<=cs.length):(qF n k cs).length=k:=by
 unfold qF
 split
 ·rename_i h1;subst h1;simp;omega
 ·exact zA n k cs
theorem aAX:∀ {cs:List PD},(∀d∈cs,d.plain=true)->cs.flatMap PD.cells=cs
 | [],_=>rfl
 |x::xs,h=>by
  have hx:x.cells=[x]:=by
   have:=h x (by simp)
   cases x<;>first|rfl|(simp[PD.plain]at this;done)
  rw[List.flatMap_cons,hx,aAX (fun d hd=>h d (by simp[hd]))]
  rfl
theorem aHQ{n k:Nat}{cs:List PD}(h:k*n<=cs.length)(hp:∀d∈cs,d.plain=true):(qF n k cs).flatMap PD.cells=cs.take (k*n):=by
 unfold qF
 split
 ·rename_i h1
  subst h1
  rw[aAX (fun d hd=>hp d (yAy hd)),Nat.mul_one]
 ·exact L7 n k cs h
theorem aHR{n k:Nat}{cs:List PD}(h:k*n<=cs.length)(hp:∀d∈cs,d.plain=true):∀x∈qF n k cs,x.cells.length=n:=by
 unfold qF
 split
 ·rename_i h1
  subst h1
  intro x hx
  have:=hp x (yAy hx)
  cases x<;>first|rfl|(simp[PD.plain]at this;done)
 ·exact L8 n k cs h
theorem aHS{c:Cx}{cs:List Value}{ds:List PD}(h:aQ c cs ds)(h1:∀v∈cs,v.oneCell'=true):∀d∈ds,d.plain=true:=by
 intro d hd
 obtain⟨i,hi⟩:=List.getElem?_of_mem hd
 have hlt:i<cs.length:=by rw[h.1];exact(yA.1 hi).1
 have:=(h.2 i cs[i] d (by simp[hlt]) hi).plain
 rw[this]
 exact h1 _ (yAm hlt)
theorem uQ{xs:List PD}(h:PD.eM xs=true){d:PD}(hd:d∈xs):d.aY=true:=by
 rw[PD.p7]at h
 exact yAn.1 h d hd
theorem RW{x:PD}(h:x.aY=true){d:PD}(hd:d∈x.cells):d.aY=true:=by
 cases x with
 |agg cs=>simp only[PD.aY]at h;exact uQ h hd
 |typed t cs=>simp only[PD.aY]at h;exact uQ h hd
 |_=>simp only[PD.cells,List.mem_singleton]at hd;rw[hd];exact h
theorem aAY{c1 c2:Cx}(hs:Sr c1)(hw:c2.w=c1.w)(hav:∀a,c1.av a->c2.av a)(hnew:∀id b,c1.D id->aV (c1.ρ id)=some b->∀j,c2.av ⟨b,j,none⟩) :
  ∀(k:Nat) (v:Value) (p:PD),VR c1 v p->(bA c1.σ k p).aY=true->VR c2 v (bA c1.σ k p):=by
 have up:∀a v,c1.av a->c1.w.cell? a=some v->c2.av a/\c2.w.cell? a=some v:=fun a v h1 h2=>⟨hav a h1,by rw[hw];exact h2⟩
 have row:∀(b off n cap sz C:Nat) (cells:List Value) (ds:List PD) (T:TypeId) (cur:Array Value) (k:Nat),(∀k'≤k,∀v p,VR c1 v p->(bA c1.σ k' p).aY=true->VR c2 v (bA c1.σ k' p))->c1.w.heap[b]?=some (.cells cur T (0,0))->(∀j,c2.av ⟨b,j,none⟩) ->
   (∀(j:Nat) (v:Value),cells[j]?=some v->cur.toList[j]?=some v)->aQ c1 cells ds->(∀v∈cells,v.oneCell'=true)->off+n*sz<=ds.length->n<=cap->cap<=maxLen ->
   (PD.slice sz (qF sz n ((ds.drop off).map (bA c1.σ k))) .any).aY=true->VR c2 (.slice (some ⟨b,off,none⟩) n cap) (.slice sz (qF sz n ((ds.drop off).map (bA c1.σ k))) .any):=by
  intro b off n cap sz C cells ds T cur k ih hb hbv hc hv h1 hle hn hm hf
  have hpd:=aHS hv h1
  have hpl:∀d∈(ds.drop off).map (bA c1.σ k),d.plain=true:=fun d hd=>by
   obtain⟨d0,rR,rfl⟩:=yAw.1 hd
   exact aAU _ _ _ (hpd d0 (List.mem_of_mem_drop rR))
  have hlen:n*sz<=((ds.drop off).map (bA c1.σ k)).length:=by simp;omega
  have hcl:cells.length=ds.length:=hv.1
  have hfl:=aHQ hlen hpl
  refine .slice (some ⟨b,off,none⟩) n cap sz _ .any ((cells.drop off).take (n*sz)) (aHP hlen).symm hn hm (aHR hlen hpl) (by rw[yAt,List.length_drop];omega) (fun v xK=>h1 v (List.mem_of_mem_drop (yAy xK))) ?_ ?_ trivial
  ·intro j v hj
   refine⟨_,rfl,?_,?_⟩
   ·rw[xM,hw]
    simp only[World.cell?,hb]
    rw[yAv]at hj
    split at hj
    ·rw[List.getElem?_drop]at hj
     simpa using hc _ v hj
    ·cases hj
   ·rw[xM];exact hbv _
  ·intro j v d hj hd
   rw[hfl,yAv]at hd
   rw[yAv]at hj
   split at hj
   ·rename_i hjn
    rw[if_pos hjn,yAo]at hd
    rw[List.getElem?_drop]at hj
    cases h0:(ds.drop off)[j]? with
    |none=>rw[h0]at hd;cases hd
    |some d0=>
     rw[h0]at hd
     simp only[yBc,yAb]at hd
     subst hd
     rw[List.getElem?_drop]at h0
     refine ih k (yAk _) v d0 (hv.2 _ v d0 hj h0) ?_
     have hmem:bA c1.σ k d0∈(qF sz n ((ds.drop off).map (bA c1.σ k))).flatMap PD.cells:=by
      rw[hfl]
      refine yBe (i:=j) ?_
      rw[yAv,if_pos hjn,yAo,List.getElem?_drop,h0]
      rfl
     obtain⟨x,hx,hxd⟩:=List.mem_flatMap.1 hmem
     simp only[PD.aY,yAr]at hf
     exact RW (uQ hf.1 hx) hxd
   ·cases hj
 intro k
 induction k using Nat.strongRecOn with
 |_ k ih=>
  intro v p hv hf
  cases k with
  |zero=>exact hv.free up hf
  |succ k=>
   cases hv with
   |bool b=>exact .bool b
   |int kk n=>exact .int kk n
   |str s=>exact .str s
   |eN=>exact .eN
   |gU=>exact .gU
   |eV v h=>exact .eV v h
   |agg cs ds hl h1 h2=>
    simp only[bA]at hf ⊢
    simp only[PD.aY]at hf
    refine .agg cs _ (by simpa using hl) h1 (fun i u d hu hd=>?_)
    rw[yAo]at hd
    cases h0:ds[i]? with
    |none=>rw[h0]at hd;cases hd
    |some d0=>
     rw[h0]at hd
     simp only[yBc,yAb]at hd
     subst hd
     exact ih k (by omega) u d0 (h2 i u d0 hu h0) (uQ hf (yAw.2 ⟨d0,yBe h0,rfl⟩))
   |aH cs ds hl h2=>
    simp only[bA]at hf ⊢
    simp only[PD.aY]at hf
    refine .aH cs _ (by simpa using hl) (fun i u d hu hd=>?_)
    rw[yAo]at hd
    cases h0:ds[i]? with
    |none=>rw[h0]at hd;cases hd
    |some d0=>
     rw[h0]at hd
     simp only[yBc,yAb]at hd
     subst hd
     exact ih k (by omega) u d0 (h2 i u d0 hu h0) (uQ hf (yAw.2 ⟨d0,yBe h0,rfl⟩))
   |iface t u q hq=>
    simp only[bA]at hf ⊢
    simp only[PD.aY]at hf
    exact .iface t u _ (ih k (by omega) u q hq hf)
   |slice A n cap size xs tok fl hn hc hm hx hfl h1 hcell h2 ht=>
    simp only[bA]at hf ⊢
    simp only[PD.aY,yAr]at hf
    refine .slice A n cap size _ .any fl (by simpa using hn) hc hm ?_ hfl h1 (fun j u hj=>?_) (fun j u d hj hd=>?_) trivial
    ·intro y hy
     obtain⟨x,hxm,rfl⟩:=yAw.1 hy
     rw[aAV]
     exact hx x hxm
    ·obtain⟨ad,e,g1,g2⟩:=hcell j u hj
     obtain⟨q1,q2⟩:=up _ _ g2 g1
     exact⟨ad,e,q2,q1⟩
    ·obtain⟨k',d0,hk,h0,rfl⟩:=aAW c1.σ k xs j d hd
     refine ih k' (by omega) u _ (h2 j u d0 hj h0) ?_
     obtain⟨y,hy,hyd⟩:=List.mem_flatMap.1 (yBe hd)
     exact RW (uQ hf.1 hy) hyd
   |ptr id off b hd hq hr=>simp[bA,PD.aY]at hf
   |dQ id ver off b hp=>simp[bA,PD.aY]at hf
   |fD id b hd hn hr=>simp[bA,PD.aY]at hf
   |yield id l hd hn hr=>simp[bA,PD.aY]at hf
   |eF ad fl ds off hl h1 hcl h2=>
    simp only[bA]at hf ⊢
    exact(VR.eF ad fl ds off hl h1 hcl h2).free up hf
   |func f cs ds hl h2=>
    simp only[bA]at hf ⊢
    exact(VR.func f cs ds hl h2).free up hf
   |dA f cs ds hl h2=>
    simp only[bA]at hf ⊢
    exact(VR.dA f cs ds hl h2).free up hf
   |dE id off n cap size b hd hq hr h1 h2=>
    simp only[bA]at hf ⊢
    split at hf
    ·rename_i q hqq
     split at hf
     ·rename_i hle
      rw[if_pos hle]
      obtain⟨b',cur,T,e1,e2,e3,e4⟩:=hs.box id q hd hqq
      rw[hr]at e1
      simp only[Value.pointer.injEq,yAb,Addr.mk.injEq,and_true]at e1
      subst e1
      exact row b off n cap size 0 cur.toList q.cells T cur k (fun k' hk=>ih k' (by omega)) e2 (hnew id b hd (by rw[hr];rfl)) (fun j v h=>h) e3 e4.1 hle h1 h2 hf
     ·simp[PD.aY]at hf
    ·simp[PD.aY]at hf
   |aF id ver off n cap size b hp h1 h2=>
    simp only[bA]at hf ⊢
    split at hf
    ·rename_i e sz' eR cs hqq
     split at hf
     ·rename_i hle
      rw[if_pos hle]
      obtain⟨rfl,rfl,hle⟩:=hle
      obtain⟨_,C,hr,_⟩:=(hp.2 _ _ _ cs hqq).2 rfl
      obtain⟨b',C',cur,e1,e2,e3,e4,e5,e6,e7,e8⟩:=hs.row id e _ _ cs hp.1 hqq
      rw[hr]at e1
      simp only[Value.slice.injEq,yAb,Addr.mk.injEq,and_true,true_and]at e1
      obtain⟨rfl,rfl⟩:=e1
      exact row b off n cap sz' 0 (cur.toList.take cs.length) cs e cur k (fun k' hk=>ih k' (by omega)) e2 (hnew id b hp.1 (by rw[hr];rfl)) (fun j v h=>by
       rw[yAv]at h
       split at h
       ·exact h
       ·cases h) e7 (fun v xK=>e8 v (yAy xK)) hle h1 h2 hf
     ·simp[PD.aY]at hf
    ·simp[PD.aY]at hf
theorem aE.aAH{P:Program}{E:aD}(hE:aE P E)(hP:P.follows .mixedOrders=true){f:FuncId}{g:List PD->Option PD}
  (h:∀args p,g args=some p->∃N k p1 σ1,iP P E N 0 (.inl f) (args.map PD.strip) []=some (p1,σ1)/\(bA σ1 k p1).strip=p/\(bA σ1 k p1).aY=true/\PD.eM (args.map PD.strip)=true) :
  aE P (E.add f (fun _ args σ=>match g args with|some p=>some (p,σ)|none=>none)):=by
 intro F fl f' g' args c vs p σ' hF hg hgo hs hX hv
 unfold aD.add at hg
 split at hg
 ·rename_i e
  subst e
  simp only[yAb]at hg;subst hg
  cases hga:g args with
  |none=>simp only[hga]at hgo;cases hgo
  |some q=>
   simp only[hga,yAb,yAc]at hgo
   obtain⟨rfl,rfl⟩:=hgo
   obtain⟨N,k,p1,σ1,hN,e1,e3,e2⟩:=h args q hga
   have gH:aQ c.bare vs (args.map PD.strip):=hv.strip.free (fun a v h1 h2=>⟨(LP a).2 h1,h2⟩) e2
   have:=(vX hE hP hF N).fn (c:=c.bare) hN hs.bare (fun _ _ h=>h.elim) gH
   refine⟨this.1,fun m=>CallsIn.mono (this.2 m) fun e w' he=>?_⟩
   cases e with
   |returned v=>
    obtain⟨c1,rfl,rfl,hs1,nx,hvv,_⟩:=he
    have hgr:c.w.grownBy c1.w none:=⟨nx.os,nx.tape,nx.output,nx.size,fun k hk _=>nx.frame k hk (fun _ h=>h.elim)⟩
    have hsc:=hs.grow hgr
    refine⟨c.at c1.w,rfl,rfl,hsc,Nx.grow hs hgr,?_,fun _ h=>.inl h⟩
    have hav:∀a,c1.av a->(c.at c1.w).av a:=fun a h1=>by
     have h3:c1.X a:=h1.1
     rw[nx.X]at h3
     exact h3
    have hnew:∀id b,c1.D id->aV (c1.ρ id)=some b->∀j,(c.at c1.w).av ⟨b,j,none⟩:=fun id b hd hb j=>by
     have hge:c.w.heap.size<=b:=by
      rcases Nat.lt_or_ge b c.w.heap.size with hlt|hge
      ·exact(nx.back id b hd hb hlt).1.elim
      ·exact hge
     refine⟨hs.fresh _ hge,fun i o hi ho=>?_⟩
     have key:∀b',aV (c.ρ i)=some b'->b≠b':=fun b' hb' e=>by
      have:=hs.lt i b' hi hb'
      omega
     cases o with
     |none=>trivial
     |box p=>exact key
     |own e size n=>intro b' hb' e;exact absurd e (key b' hb')
     |row e size ver ds=>exact key
     |map es=>trivial
     |mark=>trivial
     |loop st fr ps asg bd=>trivial
    have:=(aAY hs1 (c2:=c.at c1.w) rfl hav hnew k v p1 hvv e3).strip
    rw[e1]at this
    exact this
   |panicked ch=>exact he.elim
   |outgrown=>exact he.elim
 ·exact hE hF hg hgo hs hX hv
theorem aE.RX{P:Program}{E:aD}(hE:aE P E)(hP:P.follows .mixedOrders=true){f:FuncId}{g:List PD->Option PD}
  (h:∀args p,g args=some p->∃k p1 σ1,mD P E 0 (.inl f) (args.map PD.strip) [] p1 σ1/\(bA σ1 k p1).strip=p/\(bA σ1 k p1).aY=true/\PD.eM (args.map PD.strip)=true) :
  aE P (E.add f (fun _ args σ=>match g args with|some p=>some (p,σ)|none=>none)):=
 hE.aAH hP fun args p hg=>by
  obtain⟨k,p1,σ1,⟨N,hN⟩,r⟩:=h args p hg
  exact⟨N,k,p1,σ1,hN N (yAk _),r⟩
def RunT(P:Program)(E:aD)(f:FuncId)(args:List PD)(p:PD):Prop:=∃k p1 σ1,mD P E 0 (.inl f) args [] p1 σ1/\(bA σ1 k p1).strip=p/\(bA σ1 k p1).aY=true
theorem aE.zL{P:Program}{E:aD}{f:FuncId}{α β:Type}(hE:aE P E)(hP:P.follows .mixedOrders=true){a:Em α}{r:Em β}{F:α->Option β}(h:∀x z,F x=some z->RunT P E f [a.U x] (r.U z)):aE P (E.add f (entry (b9 a r F))):=by
 refine hE.RX hP fun args p hg=>?_
 match args,hg with
 | [q],hg=>
   simp only[b9]at hg
   split at hg
   ·rename_i x hx
    split at hg
    ·rename_i z hz
     simp only[yAb]at hg;subst hg
     obtain⟨k,p1,σ1,e1,e2,e3⟩:=h x z hz
     have:=Em.o0 hx
     exact⟨k,p1,σ1,by simpa [this]using e1,e2,e3,by simp[this,PD.eM,a.dU]⟩
    ·cases hg
   ·cases hg
theorem aE.aAZ{P:Program}{E:aD}{f:FuncId}{α β γ:Type}(hE:aE P E)(hP:P.follows .mixedOrders=true){a:Em α}{b:Em β}{r:Em γ}{F:α->β->Option γ}(h:∀x y z,F x y=some z->RunT P E f [a.U x,b.U y] (r.U z)) :
  aE P (E.add f (entry (fQ a b r F))):=by
 refine hE.RX hP fun args p hg=>?_
 match args,hg with
 | [q,s],hg=>
   simp only[fQ]at hg
   split at hg
   ·rename_i x y hx hy
    split at hg
    ·rename_i z hz
     simp only[yAb]at hg;subst hg
     obtain⟨k,p1,σ1,e1,e2,e3⟩:=h x y z hz
     have h1:=Em.o0 hx
     have h2:=Em.o0 hy
     exact⟨k,p1,σ1,by simpa [h1,h2]using e1,e2,e3,by simp[h1,h2,PD.eM,a.dU,b.dU]⟩
    ·cases hg
   ·cases hg
def Cx.held(c:Cx)(a:Addr):Prop:=∃id b,c.D id/\aV (c.ρ id)=some b/\a.block=b
section
theorem mD.unique{P:Program}{E:aD}{fl:Nat}{f:FuncId ⊕ Nat}{args:List PD}{σ:List aB}{r q:PD×List aB}(h:mD P E fl f args σ r.1 r.2)(k:mD P E fl f args σ q.1 q.2):r=q:=by
 obtain⟨N,hN⟩:=h
 obtain⟨M,hM⟩:=k
 have h1:=hN (max N M) (Nat.le_max_left _ _)
 rw[hM (max N M) (Nat.le_max_right _ _)]at h1
 simp only[yAb,yAc]at h1
 exact Prod.ext h1.1.symm h1.2.symm
open Classical in
def yD(P:Program)(E:aD)(f:FuncId):Nat->List PD->List aB->Option (PD×List aB):=fun fl args σ=>
 if h:∃r:PD×List aB,mD P E fl (.inl f) args σ r.1 r.2/\σ≠[]then some (Classical.choose h)else none
theorem aNt{P:Program}{E:aD}{f:FuncId}{fl:Nat}{args:List PD}{σ σ':List aB}{p:PD}(h:mD P E fl (.inl f) args σ p σ')(kJ:σ≠[]):yD P E f fl args σ=some (p,σ'):=by
 unfold yD
 have hx:∃r:PD×List aB,mD P E fl (.inl f) args σ r.1 r.2/\σ≠[]:=⟨(p,σ'),h,kJ⟩
 rw[dif_pos hx]
 exact congrArg some ((Classical.choose_spec hx).1.unique (q:=(p,σ')) h)
theorem aI.es:True:=trivial
theorem aN.es{P:Program}{E:aD}{f:FuncId}{fl:Nat}{args:List PD}{σ:List aB}{R:PD->List aB->Prop}(h:aN P E fl (.inl f) args σ R)(kJ:σ≠[]):∃p σ',yD P E f fl args σ=some (p,σ')/\R p σ':=by
 obtain⟨p,σ',h1,h2⟩:=h.ex
 exact⟨p,σ',aNt h1 kJ,h2⟩
theorem aE.aDP{P:Program}{E:aD}(hE:aE P E)(hP:P.follows .mixedOrders=true){f:FuncId}{g:Nat->List PD->List aB->Option (PD×List aB)}
  (h:∀fl args σ p σ',g fl args σ=some (p,σ')->∀(c:Cx) (vs:List Value),c.σ=σ->aQ c vs args->∃args1 p1,aQ c vs args1/\mD P E fl (.inl f) args1 σ p1 σ'/\∀c' v,VR c' v p1->VR c' v p):aE P (E.add f g):=by
 intro F fl f' g' args c vs p σ' hF hg hgo hs hX hv
 unfold aD.add at hg
 split at hg
 ·rename_i e
  subst e
  simp only[yAb]at hg;subst hg
  obtain⟨args1,p1,nY,⟨N,hN⟩,hp⟩:=h fl args c.σ p σ' hgo c vs rfl hv
  have:=(vX hE hP hF N).fn (hN N (yAk _)) hs hX nY
  refine⟨this.1,fun m=>CallsIn.mono (this.2 m) fun e w' he=>?_⟩
  cases e with
  |returned v=>
   obtain⟨c1,e1,e2,hs1,nx,hvv,hfin⟩:=he
   exact⟨c1,e1,e2,hs1,nx,hp _ _ hvv,hfin⟩
  |panicked ch=>exact he.elim
  |outgrown=>exact he.elim
 ·exact hE hF hg hgo hs hX hv
end
section
open Go
section
variable{P:Program}{E:aD}{fl:Nat}{ops:Array Oper}
end
theorem aN.e0:True:=trivial
theorem aI.e0:True:=trivial
end
section
open Classical in
def pT(E:aD):dD:=fun fl tg args σ=>match gE E fl tg args σ with
 |some (p,σ')=>if gE E (max fl σ.length) tg args σ=some (p,σ')/\σ'=σ++σ'.drop σ.length then some (p,σ')else none
 |none=>none
theorem kQ{E:aD}{fl:Nat}{f:FuncId}{args:List PD}{σ τ:List aB}{p:PD}{g}(hE:E f=some g)(h:∀fl,g fl args σ=some (p,σ++τ)):pT E fl (.inl f) args σ=some (p,σ++τ):=by
 have e:∀fl,gE E fl (.inl f) args σ=some (p,σ++τ):=fun fl=>by simp only[gE,hE,h]
 unfold pT
 simp only[e]
 rw[if_pos ⟨e _,by simp⟩]
theorem aDW{E:aD}{fl:Nat}{tg:FuncId ⊕ Nat}{args:List PD}{σ:List aB}{x:PD×List aB}(h:pT E fl tg args σ=some x):gE E fl tg args σ=some x/\gE E (max fl σ.length) tg args σ=some x/\x.2=σ++x.2.drop σ.length:=by
 unfold pT at h
 split at h
 ·rename_i p σ' e
  split at h
  ·rename_i hc
   simp only[yAb]at h
   subst h
   exact⟨e,hc.1,hc.2⟩
  ·cases h
 ·cases h
section
variable{P:Program}{E:aD}{fl:Nat}{fr:List PD}{σ:List aB}
theorem aNA{op:Op}{x:PD×List aB}(h:cP P (pT E) fl fr σ op=some x):cP P (gE E) fl fr σ op=some x:=by
 unfold cP at h ⊢
 split at h
 ·rename_i tg args hp
  exact(aDW h).1
 ·exact h
theorem OR{ops:Array Oper}:∀(l:List Oper) (i:Nat) (fr:List PD) (σ:List aB) (x:List PD×List aB),ops.toList.drop i=l->A7 ops=true ->
  gF P (pT E) fl ops l fr σ=some x->mR P (gE E) fl ops (flags ops i l) fr σ=some x
 | [],_,_,_,_,_,_,h=>h
 |o::l,i,fr,σ,x,hd,hm,h=>by
  have ho:ops.toList[i]?=some o:=by
   have:=congrArg List.head? hd
   rw[List.head?_drop]at this
   simpa using this
  have hd':ops.toList.drop (i+1)=l:=by rw[<-List.drop_drop,hd];rfl
  have hi:i<ops.size:=by
   have:=(yA.1 ho).1
   simpa using this
  have hown:G7 o.op=false\/vW ops i=true:=by
   have hm':=hm
   rw[A7,D4]at hm'
   simp only[yAn,List.mem_range,Bool.or_eq_true,Bool.not_eq_true']at hm'
   have:=hm' i hi
   rw[lC,ho]at this
   simpa [vW]using this
  simp only[gF]at h
  simp only[flags,mR]
  split at h
  ·rename_i hw
   rw[if_pos hw]
   split at h
   ·rename_i p σ1 hp
    cases hf:(!fM o.op||vW ops i)with
    |true=>
     simp only[aNA hp]
     exact OR l (i+1) _ _ _ hd' hm h
    |false=>
     simp only[Bool.or_eq_false_iff,Bool.not_eq_false']at hf
     obtain⟨jP,wZ⟩:=hf
     rw[wZ]at hown
     have hop:G7 o.op=false:=by simpa using hown
     have key:cP P (gE E) (max fl σ.length) fr σ o.op=some (p,σ1)/\σ1=σ++σ1.drop σ.length:=by
      unfold cP at hp ⊢
      split at hp
      ·rename_i tg args hpc
       obtain⟨_,k2,k3⟩:=aDW hp
       exact⟨k2,k3⟩
      ·rename_i hpc
       exfalso
       cases hq:o.op with
       |box t x=>rw[hq]at hop;cases hop
       |call c=>
        obtain⟨callee,args,ts⟩:=c
        cases callee with
        |builtin b=>rw[hq]at hop jP;cases b<;>first|(cases hop;done)|(cases jP;done)
        |value f=>rw[hq]at hp;simp[pop,eP,dL]at hp
        |invoke r m=>rw[hq]at jP;cases jP
       |_=>rw[hq]at jP;cases jP
     simp only[key.1,<-key.2]
     exact OR l (i+1) _ _ _ hd' hm h
   ·cases h
  ·rename_i hw
   rw[if_neg hw]
   exact OR l (i+1) _ _ _ hd' hm h
theorem Wp.AB{rd:Option Nat}{ms:List Nat}{Q:PO->Prop}{ops:Array Oper}{id:Nat}(hs:(rN ops&&A7 ops)=true)(h:SQ P (pT E) fl ops ops.toList fr σ (fun fr' σ'=>Q ⟨.normal,fr',ms,σ'⟩)):Wp P E rd (.region id ops true) fl fr ms σ Q:=by
 simp only[yAr,G9]at hs
 obtain⟨fr',σ',h1,h2⟩:=h.ex
 exact .draw hs.1 (OR ops.toList 0 fr σ _ rfl hs.2 h1) h2
end
end
end Go.Kz
namespace Go.Kz
open Go Go.Proofs
@[simp] theorem Tryz.HN:bT prog 3=some 1:=by kernel_rfl
@[simp] theorem Tryz.pz3:eE prog 3=some (.int .i64 0):=by kernel_rfl
@[simp] theorem Tryz.pe3:mS prog 3=some (1,8):=by kernel_rfl
@[simp] theorem Tryz.ps4:bT prog 4=some 1:=by kernel_rfl
@[simp] theorem Tryz.ps5:bT prog 5=some 1:=by kernel_rfl
@[simp] theorem Tryz.pz5:eE prog 5=some (.int .u8 0):=by kernel_rfl
@[simp] theorem Tryz.ps9:bT prog 9=some 1:=by kernel_rfl
@[simp] theorem Tryz.pz9:eE prog 9=some (.str []):=by kernel_rfl
@[simp] theorem Tryz.aR0:bT prog 22=some 1:=by kernel_rfl
@[simp] theorem Tryz.aR1:bT prog 23=some 1:=by kernel_rfl
@[simp] theorem Tryz.aR2:bT prog 24=some 1:=by kernel_rfl
@[simp] theorem Tryz.aR3:bT prog 26=some 3:=by kernel_rfl
@[simp] theorem Tryz.aR4:bT prog 30=some 1:=by kernel_rfl
@[simp] theorem Tryz.aR5:eE prog 30=some (.slice 0 [] .full):=by kernel_rfl
@[simp] theorem Tryz.aR6:bT prog 32=some 1:=by kernel_rfl
@[simp] theorem Tryz.aR7:bT prog 33=some 1:=by kernel_rfl
@[simp] theorem Tryz.aR8:bT prog 34=some 1:=by kernel_rfl
@[simp] theorem Tryz.aR9:bT prog 36=some 4:=by kernel_rfl
@[simp] theorem Tryz.aSa:eE prog 36=some (.agg [.str [],.slice 0 [] .full,.slice 0 [] .full,.slice 0 [] .full]):=by kernel_rfl
@[simp] theorem Tryz.aSb:bT prog 46=some 2:=by kernel_rfl
@[simp] theorem Tryz.aSc:bT prog 63=some 2:=by kernel_rfl
@[simp] theorem Tryz.aSd:eE prog 63=some (.agg [.int .i64 0,.int .i64 0]):=by kernel_rfl
@[simp] theorem Tryz.aSe:bT prog 64=some 1:=by kernel_rfl
@[simp] theorem Tryz.aSf:bT prog 66=some 6:=by kernel_rfl
@[simp] theorem Tryz.aSg:eE prog 66=some (.agg [.str [],.str [],.int .i64 0,.int .i64 0,.int .i64 0,.slice 0 [] .full]):=by kernel_rfl
@[simp] theorem Tryz.aSh:mS prog 66=some (6,80):=by kernel_rfl
@[simp] theorem Tryz.aSi:bT prog 68=some 2:=by kernel_rfl
@[simp] theorem Tryz.aSj:eE prog 68=some (.agg [.int .i64 0,.int .i64 0]):=by kernel_rfl
@[simp] theorem Tryz.aSk:bT prog 69=some 1:=by kernel_rfl
@[simp] theorem Tryz.aSl:bT prog 71=some 5:=by kernel_rfl
@[simp] theorem Tryz.aSm:eE prog 71=some (.agg [.str [],.bool false,.int .i64 0,.int .i64 0,.slice 0 [] .full]):=by kernel_rfl
@[simp] theorem Tryz.aSn:bT prog 72=some 1:=by kernel_rfl
@[simp] theorem Tryz.aSo:bT prog 74=some 4:=by kernel_rfl
@[simp] theorem Tryz.aSp:eE prog 74=some (.agg [.str [],.int .i64 0,.int .i64 0,.slice 0 [] .full]):=by kernel_rfl
@[simp] theorem Tryz.aSq:bT prog 76=some 5:=by kernel_rfl
@[simp] theorem Tryz.aSr:eE prog 76=some (.agg [.str [],.int .i64 0,.int .i64 0,.int .i64 0,.bool false]):=by kernel_rfl
@[simp] theorem Tryz.aSs:bT prog 83=some 1:=by kernel_rfl
@[simp] theorem Tryz.aSt:bT prog 85=some 4:=by kernel_rfl
@[simp] theorem Tryz.aSu:eE prog 85=some (.agg [.int .u8 0,.int .u8 0,.bool false,.slice 0 [] .full]):=by kernel_rfl
@[simp] theorem Tryz.aSv:bT prog 92=some 1:=by kernel_rfl
@[simp] theorem Tryz.aSw:bT prog 93=some 5:=by kernel_rfl
@[simp] theorem Tryz.aSx:bT prog 95=some 9:=by kernel_rfl
@[simp] theorem Tryz.aSy:bT prog 98=some 4:=by kernel_rfl
@[simp] theorem Tryz.aSz:bT prog 100=some 4:=by kernel_rfl
@[simp] theorem Tryz.aSA:eE prog 100=some (.agg [.int .u8 0,.int .u8 0,.int .i8 0,.bool false]):=by kernel_rfl
@[simp] theorem Tryz.aSB:bT prog 102=some 2:=by kernel_rfl
@[simp] theorem Tryz.aSC:eE prog 102=some (.agg [.slice 0 [] .full,.bool false]):=by kernel_rfl
@[simp] theorem Tryz.aSD:bT prog 110=some 1:=by kernel_rfl
@[simp] theorem Tryz.aSE:bT prog 112=some 3:=by kernel_rfl
@[simp] theorem Tryz.aSF:eE prog 112=some (.agg [.int .i64 0,.int .i64 0,.slice 0 [] .full]):=by kernel_rfl
@[simp] theorem Tryz.aSG:bT prog 115=some 2:=by kernel_rfl
@[simp] theorem Tryz.aSH:eE prog 115=some (.agg [.int .i64 0,.int .i64 0]):=by kernel_rfl
@[simp] theorem Tryz.aSI:bT prog 116=some 1:=by kernel_rfl
@[simp] theorem Tryz.aSJ:eE prog 116=some (.gU):=by kernel_rfl
@[simp] theorem Tryz.aSK:bT prog 118=some 1:=by kernel_rfl
@[simp] theorem Tryz.aSL:eE prog 118=some (.gU):=by kernel_rfl
@[simp] theorem Tryz.aSM:bT prog 127=some 1:=by kernel_rfl
@[simp] theorem Tryz.aSN:bT prog 129=some 1:=by kernel_rfl
@[simp] theorem Tryz.aSO:bT prog 130=some 1:=by kernel_rfl
@[simp] theorem Tryz.aSP:eE prog 132=some (.agg [.slice 0 [] .full,.slice 0 [] .full,.slice 0 [] .full,.slice 0 [] .full,.slice 0 [] .full]):=by kernel_rfl
@[simp] theorem Tryz.aSQ:eE prog 139=some (.agg [.slice 0 [] .full,.slice 0 [] .full,.slice 0 [] .full,.slice 0 [] .full,.slice 0 [] .full]):=by kernel_rfl
@[simp] theorem Tryz.aSR:eE prog 142=some (.agg [.slice 0 [] .full]):=by kernel_rfl
@[simp] theorem Tryz.aSS:bT prog 148=some 1:=by kernel_rfl
@[simp] theorem Tryz.aST:eE prog 148=some (.int .u64 0):=by kernel_rfl
@[simp] theorem Tryz.aSU:mS prog 148=some (1,8):=by kernel_rfl
@[simp] theorem Tryz.aSV:bT prog 170=some 3:=by kernel_rfl
@[simp] theorem Tryz.aSW:eE prog 170=some (.agg [.slice 0 [] .full,.int .i64 0,.int .i64 0]):=by kernel_rfl
@[simp] theorem Tryz.aSX:bT prog 176=some 1:=by kernel_rfl
attribute [simp] underlying1 underlying2 underlying3 underlying4 underlying5 underlying6 underlying7 underlying8 underlying9 underlying10 underlying11 underlying12 underlying13 underlying14 underlying15 underlying16 underlying17 underlying18 underlying19 underlying20 underlying21 underlying22 underlying23 underlying24 underlying25 underlying26 underlying27 underlying28 underlying29 underlying30 underlying31 underlying32 underlying33 underlying34 underlying35 underlying36 underlying37 underlying38 underlying40 underlying41 underlying42 underlying43 underlying44 underlying45 underlying46 underlying47 underlying49 underlying50 underlying52 underlying53 underlying54 underlying55 underlying56 underlying57 underlying58 underlying59 underlying60 underlying61 underlying62 underlying63 underlying64 underlying65 underlying66 underlying67 underlying68 underlying69 underlying70 underlying71 underlying72 underlying73 underlying74 underlying75 underlying76 underlying77 underlying78 underlying79 underlying80 underlying81 underlying82 underlying83 underlying84 underlying85 underlying86 underlying87 underlying88 underlying89 underlying90 underlying91 underlying92 underlying93 underlying94 underlying95 underlying96 underlying97 underlying98 underlying99 underlying100 underlying101 underlying102 underlying103 underlying104 underlying105 underlying106 underlying107 underlying108 underlying109 underlying110 underlying111 underlying112 underlying113 underlying114 underlying115 underlying116 underlying117 underlying118 underlying119 underlying120 underlying121 underlying122 underlying123 underlying124 underlying125 underlying126 underlying127 underlying128 underlying129 underlying130 underlying131 underlying132 underlying133 underlying134 underlying135 underlying136 underlying137 underlying138 underlying139 underlying140 underlying141 underlying142 underlying143 underlying144 underlying145 underlying146 underlying147 underlying148 underlying149 underlying150 underlying151 underlying152 underlying154 underlying155 underlying156 underlying157 underlying158 underlying159 underlying160 underlying161 underlying162 underlying163 underlying164 underlying165 underlying166 underlying167 underlying168 underlying169 underlying170 underlying171 underlying172 underlying173 underlying174 underlying175 underlying176 underlying177 underlying178 underlying179 underlying180 underlying181 underlying182 underlying183 underlying184 underlying185 underlying186 underlying187 underlying188 underlying189 underlying190 underlying191 underlying192 underlying193 underlying194 underlying195 underlying196 underlying197 underlying198 underlying200 underlying202 underlying203 underlying204 underlying205 underlying206 underlying207 underlying208 underlying209 underlying210 underlying211 underlying212 underlying213 underlying214 underlying215 underlying216 underlying217 underlying218 underlying219 underlying220 underlying222 underlying223 underlying224 underlying225 underlying226 underlying227 underlying228 underlying229 underlying230 underlying231 underlying232 underlying233 underlying234 underlying235 underlying236 underlying237 underlying238 underlying239 underlying240 underlying241 underlying242 underlying243 underlying244 underlying245 underlying246 underlying247 underlying248 underlying250 underlying251 underlying252 underlying253 underlying254 underlying255 underlying257 underlying258 underlying259 underlying260 underlying261 underlying262 underlying263 underlying264 underlying265 underlying266 underlying267 underlying268 underlying269 underlying270 underlying271 underlying272 underlying273 underlying274 underlying275 underlying276 underlying277 underlying278 underlying280 underlying281 underlying282 underlying283 underlying284 underlying286 underlying287 underlying288 underlying289 underlying290 underlying291 underlying292 underlying293 underlying294 underlying295 underlying297 underlying298 underlying299 underlying301 underlying303 underlying304 underlying305 underlying306 underlying307 underlying308 underlying309 underlying310 underlying311 underlying312 underlying313 underlying314 underlying315 underlying316 underlying317 underlying318 underlying319 underlying320 underlying321 underlying322 underlying323
section
set_option maxRecDepth 10000
theorem Tryz.aHT:prog.eqGuardType prog.depth 63=false:=by kernel_rfl
theorem Tryz.aHU:qP prog 12 63=some [.i .i64,.i .i64]:=by kernel_rfl
theorem Tryz.aHV:fN prog 63=some true:=by kernel_rfl
@[simp] theorem Tryz.aSY{a0 b0:Int}{a1 b1:Int}:eA prog .eql 63 (.agg [.int .i64 a0,.int .i64 a1]) (.agg [.int .i64 b0,.int .i64 b1])=some (.bool (decide (a0=b0)&&(decide (a1=b1)&&true))):=PQ Tryz.aHT Tryz.aHU Tryz.aHV rfl
theorem Tryz.aHW:prog.eqGuardType prog.depth 68=false:=by kernel_rfl
theorem Tryz.aHX:qP prog 12 68=some [.i .i64,.i .i64]:=by kernel_rfl
theorem Tryz.aHY:fN prog 68=some true:=by kernel_rfl
@[simp] theorem Tryz.aSZ{a0 b0:Int}{a1 b1:Int}:eA prog .eql 68 (.agg [.int .i64 a0,.int .i64 a1]) (.agg [.int .i64 b0,.int .i64 b1])=some (.bool (decide (a0=b0)&&(decide (a1=b1)&&true))):=PQ Tryz.aHW Tryz.aHX Tryz.aHY rfl
theorem Tryz.aHZ:prog.eqGuardType prog.depth 76=false:=by kernel_rfl
theorem Tryz.aH0:qP prog 12 76=some [.s,.i .i64,.i .i64,.i .i64,.b]:=by kernel_rfl
theorem Tryz.aH1:fN prog 76=some true:=by kernel_rfl
@[simp] theorem Tryz.aS0{a0 b0:List UInt8}{a1 b1:Int}{a2 b2:Int}{a3 b3:Int}{a4 b4:Bool}:eA prog .neq 76 (.agg [.str a0,.int .i64 a1,.int .i64 a2,.int .i64 a3,.bool a4]) (.agg [.str b0,.int .i64 b1,.int .i64 b2,.int .i64 b3,.bool b4])=some (.bool (!(decide (a0=b0)&&(decide (a1=b1)&&(decide (a2=b2)&&(decide (a3=b3)&&(decide (a4=b4)&&true))))))):=YF Tryz.aHZ Tryz.aH0 Tryz.aH1 rfl
theorem Tryz.aA0:prog.eqGuardType prog.depth 115=false:=by kernel_rfl
theorem Tryz.aA1:qP prog 12 115=some [.i .i64,.i .i64]:=by kernel_rfl
theorem Tryz.aA2:fN prog 115=some true:=by kernel_rfl
@[simp] theorem Tryz.aS1{a0 b0:Int}{a1 b1:Int}:eA prog .eql 115 (.agg [.int .i64 a0,.int .i64 a1]) (.agg [.int .i64 b0,.int .i64 b1])=some (.bool (decide (a0=b0)&&(decide (a1=b1)&&true))):=PQ Tryz.aA0 Tryz.aA1 Tryz.aA2 rfl
@[simp] theorem Tryz.aS2{a0 b0:Int}{a1 b1:Int}:eA prog .neq 115 (.agg [.int .i64 a0,.int .i64 a1]) (.agg [.int .i64 b0,.int .i64 b1])=some (.bool (!(decide (a0=b0)&&(decide (a1=b1)&&true)))):=YF Tryz.aA0 Tryz.aA1 Tryz.aA2 rfl
end
def Cl0:aD:=fun _=>none
theorem aOF{P:Program}:aE P Cl0:=fun _ hg=>by cases hg
theorem aU:prog.follows .mixedOrders=true:=by kernel_rfl
def Cl1:aD:=Cl0.add 18 (uU prog 30 1)
theorem aOG:aE prog Cl1:=aOF.AR aU 30 1 5 rfl (by kernel_rfl) (by kernel_rfl) (by kernel_rfl) (by intro fl σ n;kernel_rfl)
def UD:aD:=Cl1.add 89 (uU prog 64 1)
theorem aC6:aE prog UD:=aOG.AR aU 64 1 3 rfl (by kernel_rfl) (by kernel_rfl) (by kernel_rfl) (by intro fl σ n;kernel_rfl)
def Cl3:aD:=UD.add 150 (uU prog 32 6)
theorem aOH:aE prog Cl3:=aC6.AR aU 32 6 66 rfl (by kernel_rfl) (by kernel_rfl) (by kernel_rfl) (by intro fl σ n;kernel_rfl)
def Cl4:aD:=Cl3.add 151 (uU prog 33 5)
theorem aOI:aE prog Cl4:=aOH.AR aU 33 5 71 rfl (by kernel_rfl) (by kernel_rfl) (by kernel_rfl) (by intro fl σ n;kernel_rfl)
def Cl5:aD:=Cl4.add 152 (uU prog 34 5)
theorem aOJ:aE prog Cl5:=aOI.AR aU 34 5 76 rfl (by kernel_rfl) (by kernel_rfl) (by kernel_rfl) (by intro fl σ n;kernel_rfl)
def Cl6:aD:=Cl5.add 158 (uU prog 69 4)
theorem aOK:aE prog Cl6:=aOJ.AR aU 69 4 74 rfl (by kernel_rfl) (by kernel_rfl) (by kernel_rfl) (by intro fl σ n;kernel_rfl)
def Cl7:aD:=Cl6.add 161 (uU prog 72 3)
theorem aOL:aE prog Cl7:=aOK.AR aU 72 3 112 rfl (by kernel_rfl) (by kernel_rfl) (by kernel_rfl) (by intro fl σ n;kernel_rfl)
def Cl8:aD:=Cl7.add 162 (uU prog 110 2)
theorem aOM:aE prog Cl8:=aOL.AR aU 110 2 115 rfl (by kernel_rfl) (by kernel_rfl) (by kernel_rfl) (by intro fl σ n;kernel_rfl)
abbrev ClE:aD:=Cl8
theorem aON:aE prog ClE:=aOM
end Go.Kz
namespace Go.Kz
section
noncomputable section
section
variable{β:Type}
def dN(n:Nat)(k:Nat->β):β:=match n with|0=>k 0|m+1=>k (m+1)
theorem B7(n:Nat)(k:Nat->β):dN n k=k n:=by cases n<;>rfl
def MS(z:Int)(k:Int->β):β:=match z with|.ofNat n=>dN n fun n=>k (.ofNat n)|.negSucc n=>dN n fun n=>k (.negSucc n)
theorem aAI(z:Int)(k:Int->β):MS z k=k z:=by cases z<;>simp[MS,B7]
def EW(b:UInt8)(k:UInt8->β):β:=dN b.toNat fun n=>k (UInt8.ofNat n)
theorem aAJ(b:UInt8)(k:UInt8->β):EW b k=k b:=by simp[EW,B7]
def lH{α:Type}(f:α->(α->β)->β)(l:List α):(List α->β)->β:=
 List.rec (motive:=fun _=>(List α->β)->β) (fun k=>k []) (fun x _ ih k=>f x fun x'=>ih fun xs'=>k (x'::xs')) l
theorem zH{α:Type}{f:α->(α->β)->β}(hf:∀x k,f x k=k x):∀(l:List α) (k:List α->β),lH f l k=k l
 | [],_=>rfl
 |x::xs,k=>by
  show f x (fun x'=>lH f xs fun xs'=>k (x'::xs'))=_
  rw[hf,zH hf xs]
def MT(b:Bool)(k:Bool->β):β:=match b with|true=>k true|false=>k false
theorem RG(b:Bool)(k:Bool->β):MT b k=k b:=by cases b<;>rfl
def RH(x:IntKind)(k:IntKind->β):β:=match x with
 |.i8=>k .i8|.i16=>k .i16|.i32=>k .i32|.i64=>k .i64|.u8=>k .u8|.u16=>k .u16|.u32=>k .u32|.u64=>k .u64
theorem aAK(x:IntKind)(k:IntKind->β):RH x k=k x:=by cases x<;>rfl
def MU(t:Tok)(k:Tok->β):β:=match t with
 |.any=>k .any|.full=>k .full|.nil=>k .nil|.pE=>k .pE|.qY=>k .qY|.own id=>dN id fun id=>k (.own id)
theorem aAL(t:Tok)(k:Tok->β):MU t k=k t:=by cases t<;>simp[MU,B7]
def tR:Nat->PD->(PD->β)->β
 |0,p,k=>k p
 |n+1,p,k=>match p with
  |.bool b=>MT b fun b=>k (.bool b)
  |.int x z=>RH x fun x=>MS z fun z=>k (.int x z)
  |.str l=>lH EW l fun l=>k (.str l)
  |.agg cs=>lH (tR n) cs fun cs=>k (.agg cs)
  |.slice s xs t=>dN s fun s=>lH (tR n) xs fun xs=>MU t fun t=>k (.slice s xs t)
  |.ptr id off=>dN id fun id=>dN off fun off=>k (.ptr id off)
  |.eF cs off=>lH (tR n) cs fun cs=>dN off fun off=>k (.eF cs off)
  |.eN=>k .eN
  |.func f cs=>dN f fun f=>lH (tR n) cs fun cs=>k (.func f cs)
  |.dA f cs=>dN f fun f=>lH (tR n) cs fun cs=>k (.dA f cs)
  |.yield id=>dN id fun id=>k (.yield id)
  |.gU=>k .gU
  |.eV v=>k (.eV v)
  |.typed t cs=>dN t fun t=>lH (tR n) cs fun cs=>k (.typed t cs)
  |.dE id off m sz=>dN id fun id=>dN off fun off=>dN m fun m=>dN sz fun sz=>k (.dE id off m sz)
  |.aF id v off m sz=>dN id fun id=>dN v fun v=>dN off fun off=>dN m fun m=>dN sz fun sz=>k (.aF id v off m sz)
  |.dQ id v off=>dN id fun id=>dN v fun v=>dN off fun off=>k (.dQ id v off)
  |.fD id=>dN id fun id=>k (.fD id)
  |.iface t q=>dN t fun t=>tR n q fun q=>k (.iface t q)
  |.aH vs=>lH (tR n) vs fun vs=>k (.aH vs)
theorem RI:∀(n:Nat) (p:PD) (k:PD->β),tR n p k=k p
 |0,_,_=>rfl
 |n+1,p,k=>by
  have h:∀(l:List PD) (k:List PD->β),lH (tR n) l k=k l:=zH (RI n)
  have hb:∀(l:List UInt8) (k:List UInt8->β),lH EW l k=k l:=zH aAJ
  cases p<;>simp[tR,B7,aAI,RG,aAK,aAL,h,hb,RI n]
def zI{α:Type}(l:List α)(k:List α->β):β:=lH (fun x k=>k x) l k
theorem MV{α:Type}(l:List α)(k:List α->β):zI l k=k l:=zH (fun _ _=>rfl) l k
def RJ(p:PD)(k:PD->β):β:=match p with
 |.agg cs=>zI cs fun cs=>k (.agg cs)
 |.typed t cs=>zI cs fun cs=>k (.typed t cs)
 |p=>k p
theorem aHF(p:PD)(k:PD->β):RJ p k=k p:=by cases p<;>simp[RJ,MV]
def H9(o:aB)(k:aB->β):β:=match o with
 |.none=>k .none
 |.box p=>RJ p fun p=>k (.box p)
 |.own e s n=>dN e fun e=>dN s fun s=>dN n fun n=>k (.own e s n)
 |.row e s v cs=>dN e fun e=>dN s fun s=>dN v fun v=>zI cs fun cs=>k (.row e s v cs)
 |.map es=>zI es fun es=>k (.map es)
 |.mark=>k .mark
 |.loop st fr ps a b=>zI fr fun fr=>k (.loop st fr ps a b)
theorem aAM(o:aB)(k:aB->β):H9 o k=k o:=by cases o<;>simp[H9,aHF,B7,MV]
def uO(σ:List aB)(k:List aB->β):β:=lH H9 σ k
theorem EX(σ:List aB)(k:List aB->β):uO σ k=k σ:=zH aAM σ k
def IA(p:PD)(k:PD->β):β:=match p with
 |.bool b=>MT b fun b=>k (.bool b)
 |.int x z=>k (.int x z)
 |.str l=>k (.str l)
 |.agg cs=>k (.agg cs)
 |.slice s xs t=>k (.slice s xs t)
 |.ptr id off=>k (.ptr id off)
 |.eF cs off=>k (.eF cs off)
 |.eN=>k .eN
 |.func f cs=>k (.func f cs)
 |.dA f cs=>k (.dA f cs)
 |.yield id=>k (.yield id)
 |.gU=>k .gU
 |.eV v=>k (.eV v)
 |.typed t cs=>k (.typed t cs)
 |.dE id off m sz=>k (.dE id off m sz)
 |.aF id v off m sz=>k (.aF id v off m sz)
 |.dQ id v off=>k (.dQ id v off)
 |.fD id=>k (.fD id)
 |.iface t q=>k (.iface t q)
 |.aH vs=>k (.aH vs)
theorem RL(p:PD)(k:PD->β):IA p k=k p:=by cases p<;>simp[IA,RG]
def uP:Nat->PD->(PD->β)->β
 |0,p,k=>IA p k
 |n+1,p,k=>match p with
  |.bool b=>MT b fun b=>k (.bool b)
  |.int x z=>RH x fun x=>MS z fun z=>k (.int x z)
  |.str l=>lH EW l fun l=>k (.str l)
  |.agg cs=>lH (uP n) cs fun cs=>k (.agg cs)
  |.slice s xs t=>dN s fun s=>lH (uP n) xs fun xs=>MU t fun t=>k (.slice s xs t)
  |.ptr id off=>dN id fun id=>dN off fun off=>k (.ptr id off)
  |.eF cs off=>zI cs fun cs=>dN off fun off=>k (.eF cs off)
  |.func f cs=>dN f fun f=>lH (uP n) cs fun cs=>k (.func f cs)
  |.dA f cs=>dN f fun f=>lH (uP n) cs fun cs=>k (.dA f cs)
  |.dE id off m sz=>dN id fun id=>dN off fun off=>dN m fun m=>dN sz fun sz=>k (.dE id off m sz)
  |.aF id v off m sz=>dN id fun id=>dN v fun v=>dN off fun off=>dN m fun m=>dN sz fun sz=>k (.aF id v off m sz)
  |.dQ id v off=>dN id fun id=>dN v fun v=>dN off fun off=>k (.dQ id v off)
  |.fD id=>dN id fun id=>k (.fD id)
  |.iface t q=>dN t fun t=>uP n q fun q=>k (.iface t q)
  |.aH vs=>lH (uP n) vs fun vs=>k (.aH vs)
  |p=>k p
theorem MW:∀(n:Nat) (p:PD) (k:PD->β),uP n p k=k p
 |0,p,k=>RL p k
 |n+1,p,k=>by
  have h:∀(l:List PD) (k:List PD->β),lH (uP n) l k=k l:=zH (MW n)
  have hb:∀(l:List UInt8) (k:List UInt8->β),lH EW l k=k l:=zH aAJ
  cases p<;>simp[uP,B7,aAI,RG,aAK,aAL,h,hb,MW n,MV]
def zJ(l:List aB)(n:Nat):(List aB->β)->β:=
 List.rec (motive:=fun _=>Nat->(List aB->β)->β) (fun _ k=>k []) (fun x r ih n k=>Nat.rec (motive:=fun _=>β) (H9 x fun x=>k (x::r)) (fun n _=>ih n fun r=>k (x::r)) n) l n
theorem aAN:∀(l:List aB) (n:Nat) (k:List aB->β),zJ l n k=k l
 | [],_,_=>rfl
 |x::r,0,k=>by
  show H9 x (fun x=>k (x::r))=_
  rw[aAM]
 |x::r,n+1,k=>by
  show zJ r n (fun r=>k (x::r))=_
  rw[aAN r]
def handed(p:PD):Option Nat:=match p with
 |.ptr id _=>some id
 |.dQ id _ _=>some id
 |.dE id _ _ _=>some id
 |.aF id _ _ _ _=>some id
 |.fD id=>some id
 |.slice _ _ (.own id)=>some id
 |_=>none
def MY(fr:List PD)(σ:List aB)(op:Op)(p:PD)(σ':List aB)(k:List aB->β):β:=match op with
 |.load _ _=>k σ'
 |.lookup _ _ _ _=>k σ'
 |.buildSlice _ _ _=>k σ'
 |.store _ x _=>(match bB fr x with|some a=>(match handed a with|some id=>zJ σ' id k|none=>uO σ' k)|none=>uO σ' k)
 |.alloc _=>zJ σ' σ.length k
 |.box _ _=>zJ σ' σ.length k
 |.mapUpdate _ x _ _=>(match bB fr x with|some a=>(match handed a with|some id=>zJ σ' id k|none=>uO σ' k)|none=>uO σ' k)
 |.makeMap _ _=>zJ σ' σ.length k
 |.call { callee:=.builtin .append,.. }=>(match handed p with|some id=>zJ σ' id k|none=>k σ')
 |_=>uO σ' k
theorem aAO(fr:List PD)(σ:List aB)(op:Op)(p:PD)(σ':List aB)(k:List aB->β):MY fr σ op p σ' k=k σ':=by
 unfold MY
 split<;>(try split)<;>(try split)<;>simp[aAN,EX]
def RM(l:List PD)(n:Nat)(p:PD):(List PD->β)->β:=
 List.rec (motive:=fun _=>Nat->(List PD->β)->β) (fun _ k=>k []) (fun x r ih n k=>Nat.rec (motive:=fun _=>β) (k (p::r)) (fun n _=>ih n fun r=>k (x::r)) n) l n
theorem aAP:∀(l:List PD) (n:Nat) (p:PD) (k:List PD->β),RM l n p k=k (l.set n p)
 | [],_,_,_=>rfl
 |_::_,0,_,_=>rfl
 |x::r,n+1,p,k=>by
  show RM r n p (fun r=>k (x::r))=_
  rw[aAP r];rfl
def tT(fr:List PD)(dst:Option Tmp)(p:PD)(k:List PD->β):β:=match dst with
 |some d=>RM fr d p k
 |none=>k fr
theorem EY(fr:List PD)(dst:Option Tmp)(p:PD)(k:List PD->β):tT fr dst p k=k (bE fr dst p):=by cases dst<;>simp[tT,bE,aAP]
def IB(r:Option (PD×List aB))(k:PD->List aB->β)(d:β):β:=match r with
 |some (p,σ)=>tR 30 p fun p=>uO σ fun σ=>k p σ
 |none=>d
theorem aHG(r:Option (PD×List aB))(k:PD->List aB->β)(d:β):IB r k d=match r with|some (p,σ)=>k p σ|none=>d:=by
 cases r with
 |none=>rfl
 |some x=>obtain⟨p,σ⟩:=x;simp[IB,RI,EX]
end
variable{P:Program}{E:aD}
def aHH:Op->Bool
 |.move _|.assign _|.pick _ _ _|.extract _ _|.load _ _=>true
 |_=>false
def EZ{β:Type}(op:Op)(p:PD)(k:PD->β):β:=if aHH op then IA p k else uP 3 p k
theorem MZ{β:Type}(op:Op)(p:PD)(k:PD->β):EZ op p k=k p:=by unfold EZ;split<;>simp[RL,MW]
def E9{β:Type}(P:Program)(call:dD)(fl:Nat)(fr:List PD)(σ:List aB)(op:Op)(k:PD->List aB->β)(d:β):β:=
 match iU fr op with
 |some (tg,args)=>lH IA args fun args=>(match call fl tg args σ with
  |some (p,σ)=>k p σ
  |none=>d)
 |none=>match eP P fr op with
  |some p=>EZ op p fun p=>k p σ
  |none=>match dL P fl fr σ op with
   |some (p,σ')=>EZ op p fun p=>MY fr σ op p σ' fun σ'=>k p σ'
   |none=>d
theorem RN{β:Type}(call:dD)(fl:Nat)(fr:List PD)(σ:List aB)(op:Op)(k:PD->List aB->β)(d:β):E9 P call fl fr σ op k d=match cP P call fl fr σ op with|some (p,σ)=>k p σ|none=>d:=by
 unfold E9 cP
 cases iU fr op with
 |some x=>obtain⟨tg,args⟩:=x;simp only[zH RL]
 |none=>
  simp only[pop]
  cases eP P fr op with
  |some p=>simp[MZ]
  |none=>
   cases dL P fl fr σ op with
   |none=>rfl
   |some x=>obtain⟨p,σ'⟩:=x;simp[MZ,aAO]
def M0(P:Program)(call:dD)(fl:Nat)(ops:Array Oper)(l:List Oper):List PD->List aB->Option (List PD×List aB):=
 List.rec (motive:=fun _=>List PD->List aB->Option (List PD×List aB)) (fun fr σ=>some (fr,σ))
  (fun o _ ih fr σ=>if Region.wanted o (bI ops fr)then E9 P call fl fr σ o.op (fun p σ'=>tT fr o.dst p fun fr=>ih fr σ') none
   else tT fr o.dst (.aH []) fun fr=>ih fr σ) l
theorem RO(call:dD)(fl:Nat)(ops:Array Oper):∀(l:List Oper) (fr:List PD) (σ:List aB),M0 P call fl ops l fr σ=gF P call fl ops l fr σ
 | [],_,_=>rfl
 |o::rest,fr,σ=>by
  show(if Region.wanted o (bI ops fr)then E9 P call fl fr σ o.op (fun p σ'=>tT fr o.dst p fun fr=>M0 P call fl ops rest fr σ') none
   else tT fr o.dst (.aH []) fun fr=>M0 P call fl ops rest fr σ)=_
  unfold gF
  split
  ·rw[RN]
   cases cP P call fl fr σ o.op with
   |none=>rfl
   |some x=>obtain⟨p,σ'⟩:=x;simp only[EY,RO call fl ops rest]
  ·simp only[EY,RO call fl ops rest]
def IC(P:Program)(call:dD)(fl:Nat)(ops:Array Oper)(fr:List PD)(σ:List aB):Option (List PD×List aB):=
 match M0 P call fl ops ops.toList fr σ with
 |some x=>some x
 |none=>L5 P call fl ops ops.toList fr σ
theorem aHI(call:dD)(fl:Nat)(ops:Array Oper)(fr:List PD)(σ:List aB):IC P call fl ops fr σ=yT P call fl ops fr σ:=by
 unfold IC yT
 rw[RO]
 rfl
def ID{β:Type}(P:Program)(call:dD)(fl:Nat)(free:Bool)(i:Nat)(fr:List PD)(σ:List aB)(op:Op)(k:PD->List aB->β)(d:β):β:=
 if jR op then(match eP P fr op with|some p=>EZ op p fun p=>k p σ|none=>d)
 else if dM op then dN i fun i=>k (.ptr i 0) σ
 else if fM op&&!free then E9 P call (max fl σ.length) fr σ op (fun p σ'=>uO (σ++σ'.drop σ.length) fun σ'=>k p σ') d
 else if fM op then E9 P call fl fr σ op k d
 else match dL P fl fr σ op with
  |some (p,σ')=>EZ op p fun p=>MY fr σ op p σ' fun σ'=>k p σ'
  |none=>d
theorem aAQ{β:Type}(call:dD)(fl:Nat)(free:Bool)(i:Nat)(fr:List PD)(σ:List aB)(op:Op)(k:PD->List aB->β)(d:β):ID P call fl free i fr σ op k d=match nS P call fl free i fr σ op with|some (p,σ)=>k p σ|none=>d:=by
 unfold ID nS
 split
 ·cases eP P fr op<;>simp[MZ]
 ·split
  ·simp[B7]
  ·split
   ·rw[RN]
    cases cP P call (max fl σ.length) fr σ op with
    |none=>rfl
    |some x=>obtain⟨p,σ'⟩:=x;simp[EX]
   ·split
    ·rw[RN]
    ·cases dL P fl fr σ op with
     |none=>rfl
     |some x=>obtain⟨p,σ'⟩:=x;simp[MZ,aAO]
def FA(P:Program)(call:dD)(fl:Nat)(ops:Array Oper)(ms:List Nat):Nat->Nat->List Oper->List PD->List aB->List (Option Nat)->Option (List (Option Nat)×List PD×List aB)
 |_,_,[],fr,σ,ft=>some (ft.reverse,fr,σ)
 |i,k,o::rest,fr,σ,ft=>
  if Region.wanted o (bI ops fr)then
   ID P call fl (lD ops.toList ms i) k fr σ o.op (fun p σ'=>tT fr o.dst p fun fr'=>FA P call fl ops ms (i+1) (if dM o.op then k+1 else k) rest fr' σ' (qV fr o.op::ft)) none
  else tT fr o.dst (.aH []) fun fr'=>FA P call fl ops ms (i+1) (if dM o.op then k+1 else k) rest fr' σ (none::ft)
theorem RQ(call:dD)(fl:Nat)(ops:Array Oper)(ms:List Nat):∀(l:List Oper) (i k:Nat) (fr:List PD) (σ:List aB) (ft:List (Option Nat)),
  FA P call fl ops ms i k l fr σ ft=match jC P call fl ops ms i k l fr σ with|some (tr,fr',σ')=>some (ft.reverse++tr.map TE.kU,fr',σ')|none=>none
 | [],i,k,fr,σ,ft=>by simp[FA,jC]
 |o::rest,i,k,fr,σ,ft=>by
  unfold FA jC
  simp only
  split
  ·rw[aAQ]
   cases nS P call fl (lD ops.toList ms i) k fr σ o.op with
   |none=>rfl
   |some x=>
    obtain⟨p,σ'⟩:=x
    simp only[EY,RQ call fl ops ms rest]
    cases jC P call fl ops ms (i+1) (if dM o.op=true then k+1 else k) rest (bE fr o.dst p) σ' with
    |none=>rfl
    |some y=>obtain⟨tr,fr',xL⟩:=y;simp
  ·simp only[EY,RQ call fl ops ms rest]
   cases jC P call fl ops ms (i+1) (if dM o.op=true then k+1 else k) rest (bE fr o.dst (.aH [])) σ with
   |none=>rfl
   |some y=>obtain⟨tr,fr',xL⟩:=y;simp
def RS(ops:List Oper)(ms:List Nat)(ft:List (Option Nat)):Bool:=
 (List.range ops.length).all fun k=>!lC lE ops k||(List.range ops.length).all fun i=>!lC gX ops i||!loose ms i k ||
  match (ft[i]?).bind id,(ft[k]?).bind id with
  |some a,some b=>a != b
  |_,_=>true
theorem aHJ(ops:List Oper)(ms:List Nat)(tr:List TE):RS ops ms (tr.map TE.kU)=tI ops ms tr:=by
 have h:∀i,((tr.map TE.kU)[i]?).bind id=(tr[i]?).bind TE.kU:=fun i=>by
  rw[yAo]
  cases tr[i]?<;>rfl
 unfold RS tI
 simp only[h]
 rfl
def RT(ops:Array Oper):List (Oper×Bool):=ops.toList.zipIdx.map fun x=>(x.1,lD ops.toList (cN ops.toList []) x.2)
def calm(ops:Array Oper):Bool:=vZ ops (cN ops.toList [])&&(List.range ops.toList.length).all fun k=>!lC lE ops.toList k||(List.range ops.toList.length).all fun i=>!lC gX ops.toList i||!loose (cN ops.toList []) i k
def B8(P:Program)(call:dD)(fl:Nat)(ops:Array Oper)(l:List (Oper×Bool)):Nat->List PD->List aB->Option (List PD×List aB):=
 List.rec (motive:=fun _=>Nat->List PD->List aB->Option (List PD×List aB)) (fun _ fr σ=>some (fr,σ))
  (fun o _ ih k fr σ=>if Region.wanted o.1 (bI ops fr)then ID P call fl o.2 k fr σ o.1.op (fun p σ'=>tT fr o.1.dst p fun fr'=>ih (if dM o.1.op then k+1 else k) fr' σ') none
   else tT fr o.1.dst (.aH []) fun fr'=>ih (if dM o.1.op then k+1 else k) fr' σ) l
theorem RU(call:dD)(fl:Nat)(ops:Array Oper)(ms:List Nat):∀(l:List Oper) (i k:Nat) (fr:List PD) (σ:List aB),
  B8 P call fl ops ((l.zipIdx i).map fun x=>(x.1,lD ops.toList ms x.2)) k fr σ=match jC P call fl ops ms i k l fr σ with|some (_,fr',σ')=>some (fr',σ')|none=>none
 | [],i,k,fr,σ=>rfl
 |o::rest,i,k,fr,σ=>by
  show(if Region.wanted o (bI ops fr)then ID P call fl (lD ops.toList ms i) k fr σ o.op (fun p σ'=>tT fr o.dst p fun fr'=>B8 P call fl ops ((rest.zipIdx (i+1)).map fun x=>(x.1,lD ops.toList ms x.2)) (if dM o.op then k+1 else k) fr' σ') none
   else tT fr o.dst (.aH []) fun fr'=>B8 P call fl ops ((rest.zipIdx (i+1)).map fun x=>(x.1,lD ops.toList ms x.2)) (if dM o.op then k+1 else k) fr' σ)=_
  unfold jC
  simp only
  split
  ·rw[aAQ]
   cases nS P call fl (lD ops.toList ms i) k fr σ o.op with
   |none=>rfl
   |some x=>
    obtain⟨p,σ'⟩:=x
    simp only[EY,RU call fl ops ms rest]
    cases jC P call fl ops ms (i+1) (if dM o.op=true then k+1 else k) rest (bE fr o.dst p) σ' with
    |none=>rfl
    |some y=>rfl
  ·simp only[EY,RU call fl ops ms rest]
   cases jC P call fl ops ms (i+1) (if dM o.op=true then k+1 else k) rest (bE fr o.dst (.aH [])) σ with
   |none=>rfl
   |some y=>rfl
theorem aHK{ops:Array Oper}(h:calm ops=true)(tr:List TE):vZ ops (cN ops.toList [])=true/\tI ops.toList (cN ops.toList []) tr=true:=by
 simp only[calm,yAr]at h
 refine⟨h.1,?_⟩
 have h2:=h.2
 simp only[tI,yAn,List.mem_range,Bool.or_eq_true]at h2 ⊢
 intro k hk
 rcases h2 k hk with h3|h3
 ·exact .inl h3
 ·refine .inr fun i hi=>.inl ?_
  rcases h3 i hi with h4|h4
  ·exact .inl h4
  ·exact .inr h4
def IE(P:Program)(call:dD)(fl:Nat)(ops:Array Oper)(fr:List PD)(σ:List aB):Option (List PD×List aB):=
 if calm ops then
  match oB P ops.toList with
  |some []=>(match B8 P call fl ops (RT ops) σ.length fr σ with
   |some x=>some x
   |none=>oC P call fl ops fr σ)
  |some (h::hs)=>uO (σ++h::hs) fun σ1=>(match B8 P call fl ops (RT ops) σ.length fr σ1 with
   |some x=>some x
   |none=>oC P call fl ops fr σ)
  |none=>oC P call fl ops fr σ
 else if vZ ops (cN ops.toList [])then
  match oB P ops.toList with
  |some hs=>uO (σ++hs) fun σ1=>(match FA P call fl ops (cN ops.toList []) 0 σ.length ops.toList fr σ1 []with
   |some (ft,fr',σ')=>if RS ops.toList (cN ops.toList []) ft then some (fr',σ')else oC P call fl ops fr σ
   |none=>oC P call fl ops fr σ)
  |none=>oC P call fl ops fr σ
 else oC P call fl ops fr σ
theorem aAR(call:dD)(fl:Nat)(ops:Array Oper)(fr:List PD)(σ hs:List aB)(hc:calm ops=true)(hh:oB P ops.toList=some hs) :
  (match B8 P call fl ops (RT ops) σ.length fr (σ++hs)with
   |some x=>some x
   |none=>oC P call fl ops fr σ)=oC P call fl ops fr σ:=by
 have he:=RU (P:=P) call fl ops (cN ops.toList []) ops.toList 0 σ.length fr (σ++hs)
 show(match B8 P call fl ops (ops.toList.zipIdx.map fun x=>(x.1,lD ops.toList (cN ops.toList []) x.2)) σ.length fr (σ++hs)with|some x=>some x|none=>_)=_
 rw[he]
 cases hd:jC P call fl ops (cN ops.toList []) 0 σ.length ops.toList fr (σ++hs)with
 |none=>rfl
 |some y=>
  obtain⟨tr,fr',σ'⟩:=y
  obtain⟨hr,hf⟩:=aHK hc tr
  have:tE P call fl ops fr σ=some (fr',σ'):=by
   unfold tE
   simp only[hr,if_true,hh,hd,hf]
  unfold oC
  rw[this]
theorem aHL(call:dD)(fl:Nat)(ops:Array Oper)(fr:List PD)(σ:List aB):IE P call fl ops fr σ=oC P call fl ops fr σ:=by
 unfold IE
 split
 ·rename_i hc
  split
  ·rename_i hh
   have:=aAR (P:=P) call fl ops fr σ [] hc hh
   rw[yAl]at this
   exact this
  ·rename_i h hs hh
   rw[EX]
   exact aAR call fl ops fr σ (h::hs) hc hh
  ·rfl
 ·split
  ·rename_i hr
   split
   ·rename_i hs hh
    rw[EX,RQ]
    cases hd:jC P call fl ops (cN ops.toList []) 0 σ.length ops.toList fr (σ++hs)with
    |none=>rfl
    |some y=>
     obtain⟨tr,fr',σ'⟩:=y
     simp only[List.reverse_nil,List.nil_append,aHJ]
     split
     ·rename_i hf
      have:tE P call fl ops fr σ=some (fr',σ'):=by
       unfold tE
       simp only[hr,if_true,hh,hd,hf]
      unfold oC
      rw[this]
     ·rfl
   ·rfl
  ·rfl
def RV(P:Program)(code:rS)(fl:Nat)(f:FuncId)(args:List PD)(σ:List aB):Option (PD×List aB):=
 match P.funcs[f]? with
 |some fn=>match fn.body with
  |some c=>zI (args++List.replicate (fn.ntmps-args.length) (.aH [])) fun fr=>(match code none c fl fr [] σ with
   |some r=>(match fR P fl fn r with
    |some (p,σ)=>uP 1 p fun p=>(match r.ms with
     | []=>some (p,σ)
     |_=>uO σ fun σ=>some (p,σ))
    |none=>none)
   |none=>none)
  |none=>none
 |none=>none
theorem aHM(code:rS)(fl:Nat)(f:FuncId)(args:List PD)(σ:List aB):RV P code fl f args σ=BL P code fl f args σ:=by
 unfold RV BL
 cases P.funcs[f]? with
 |none=>rfl
 |some fn=>
  simp only
  cases fn.body with
  |none=>rfl
  |some c=>
   simp only[MV]
   cases code none c fl (args++List.replicate (fn.ntmps-args.length) (.aH [])) [] σ with
   |none=>rfl
   |some r=>
    simp only
    cases fR P fl fn r with
    |none=>rfl
    |some x=>
     obtain⟨p,σ⟩:=x
     simp only[MW]
     split<;>simp[EX]
def xT(P:Program)(E:aD)(code:rS):dD
 |fl,.inl f,args,σ=>match E f with
  |some g=>IB (g fl args σ) (fun p σ=>some (p,σ)) none
  |none=>RV P code fl f args σ
 |fl,.inr id,args,σ=>IB (LU code fl id args σ) (fun p σ=>some (p,σ)) none
theorem aAS(code:rS):xT P E code=rP P E code:=by
 have h:∀r:Option (PD×List aB),IB r (fun p σ=>some (p,σ)) none=r:=fun r=>by
  rw[aHG]
  cases r with
  |none=>rfl
  |some x=>rfl
 funext fl tg args σ
 cases tg with
 |inl f=>
  simp only[xT,rP]
  cases E f with
  |none=>exact aHM code fl f args σ
  |some g=>exact h _
 |inr id=>exact h _
def r9(P:Program)(E:aD)(n:Nat):rS:=
 Nat.rec (motive:=fun _=>rS) (fun _ _ _ _ _ _=>none) (fun _ self rd c fl fr ms σ=>
  match c with
  |.skip=>some ⟨.normal,fr,ms,σ⟩
  |.region _ ops false=>match IC P (xT P E self) fl ops fr σ with
    |some (fr',σ')=>some ⟨.normal,fr',ms,σ'⟩
    |none=>none
  |.region _ ops true=>match IE P (xT P E self) fl ops fr σ with
    |some (fr',σ')=>some ⟨.normal,fr',ms,σ'⟩
    |none=>none
  |.seq x y=>match self rd x fl fr ms σ with
    |some ⟨.normal,fr',ms',σ'⟩=>self rd y fl fr' ms' σ'
    |r=>r
  |.cond g x y=>match bB fr g with
    |some (.bool true)=>self rd x fl fr ms σ
    |some (.bool false)=>self rd y fl fr ms σ
    |_=>none
  |.block id b=>match self rd b fl fr ms σ with
    |some ⟨.exit k,fr',ms',σ'⟩=>some ⟨if k=id then .normal else .exit k,fr',ms',σ'⟩
    |r=>r
  |.loop b=>match self rd b fl fr ms σ with
    |some ⟨.normal,fr',ms',σ'⟩=>self rd (.loop b) fl fr' ms' σ'
    |r=>r
  |.rangeFunc g ps assign body=>match bB fr g with
    |some (.func gf cap)=>HL (xT P E self) rd gf cap ps.toList assign body fl fr ms σ
    |_=>none
  |.exit id=>some ⟨.exit id,fr,ms,σ⟩
  |.ret=>some ⟨.ret,fr,ms,σ⟩
  |_=>none) n
theorem aHN(n:Nat):r9 P E (n+1)=fun rd c fl fr ms σ=>
  match c with
  |.skip=>some ⟨.normal,fr,ms,σ⟩
  |.region _ ops false=>match IC P (xT P E (r9 P E n)) fl ops fr σ with
    |some (fr',σ')=>some ⟨.normal,fr',ms,σ'⟩
    |none=>none
  |.region _ ops true=>match IE P (xT P E (r9 P E n)) fl ops fr σ with
    |some (fr',σ')=>some ⟨.normal,fr',ms,σ'⟩
    |none=>none
  |.seq x y=>match r9 P E n rd x fl fr ms σ with
    |some ⟨.normal,fr',ms',σ'⟩=>r9 P E n rd y fl fr' ms' σ'
    |r=>r
  |.cond g x y=>match bB fr g with
    |some (.bool true)=>r9 P E n rd x fl fr ms σ
    |some (.bool false)=>r9 P E n rd y fl fr ms σ
    |_=>none
  |.block id b=>match r9 P E n rd b fl fr ms σ with
    |some ⟨.exit k,fr',ms',σ'⟩=>some ⟨if k=id then .normal else .exit k,fr',ms',σ'⟩
    |r=>r
  |.loop b=>match r9 P E n rd b fl fr ms σ with
    |some ⟨.normal,fr',ms',σ'⟩=>r9 P E n rd (.loop b) fl fr' ms' σ'
    |r=>r
  |.rangeFunc g ps assign body=>match bB fr g with
    |some (.func gf cap)=>HL (xT P E (r9 P E n)) rd gf cap ps.toList assign body fl fr ms σ
    |_=>none
  |.exit id=>some ⟨.exit id,fr,ms,σ⟩
  |.ret=>some ⟨.ret,fr,ms,σ⟩
  |_=>none:=rfl
theorem aAT:∀n,r9 P E n=iR P E n
 |0=>rfl
 |n+1=>by
  funext rd c fl fr ms σ
  have h1:∀call fl ops fr σ,IC P call fl ops fr σ=yT P call fl ops fr σ:=aHI
  have h2:∀call fl ops fr σ,IE P call fl ops fr σ=oC P call fl ops fr σ:=aHL
  rw[aHN]
  unfold iR
  rw[aAT n,aAS]
  simp only[h1,h2]
  cases c with
  |region id ops d=>cases d<;>rfl
  |_=>rfl
def MQ(P:Program)(E:aD)(n:Nat):dD:=xT P E (r9 P E n)
theorem RF(n:Nat):MQ P E n=iP P E n:=by
 unfold MQ iP
 rw[aAT,aAS]
end
end
def qZ{α:Type}(f:α->α->Bool):List α->List α->Bool
 | [],[]=>true
 |x::xs,y::ys=>f x y&&qZ f xs ys
 |_,_=>false
theorem MP{α:Type}{f:α->α->Bool}(hf:∀x y,f x y=true->x=y):∀xs ys:List α,qZ f xs ys=true->xs=ys
 | [],[],_=>rfl
 |x::xs,y::ys,h=>by
  simp only[qZ,yAr]at h
  rw[hf x y h.1,MP hf xs ys h.2]
 | [],_::_,h=>by simp[qZ]at h
 |_::_,[],h=>by simp[qZ]at h
def RE:Tok->Tok->Bool
 |.any,.any=>true
 |.full,.full=>true
 |.nil,.nil=>true
 |.pE,.pE=>true
 |.qY,.qY=>true
 |.own a,.own b=>a==b
 |_,_=>false
theorem aHD(a b:Tok)(h:RE a b=true):a=b:=by
 cases a<;>cases b<;>simp[RE]at h<;>first|rfl|(rw[h])
def qE:Nat->PD->PD->Bool
 |0,_,_=>false
 |n+1,p,q=>match p,q with
  |.bool a,.bool b=>a==b
  |.int j a,.int k b=>(j==k)&&(a==b)
  |.str a,.str b=>a==b
  |.agg a,.agg b=>qZ (qE n) a b
  |.slice s a t,.slice s' b t'=>(s==s')&&(RE t t'&&qZ (qE n) a b)
  |.ptr i o,.ptr i' o'=>(i==i')&&(o==o')
  |.eN,.eN=>true
  |.func f a,.func g b=>(f==g)&&qZ (qE n) a b
  |.dA f a,.dA g b=>(f==g)&&qZ (qE n) a b
  |.gU,.gU=>true
  |.typed t a,.typed u b=>(t==u)&&qZ (qE n) a b
  |.dE i o m s,.dE i' o' m' s'=>(i==i')&&((o==o')&&((m==m')&&(s==s')))
  |.aF i v o m s,.aF i' v' o' m' s'=>(i==i')&&((v==v')&&((o==o')&&((m==m')&&(s==s'))))
  |.dQ i v o,.dQ i' v' o'=>(i==i')&&((v==v')&&(o==o'))
  |.fD i,.fD i'=>i==i'
  |.iface t a,.iface u b=>(t==u)&&qE n a b
  |.aH a,.aH b=>qZ (qE n) a b
  |.eV .nilIface,.eV .nilIface=>true
  |.eV (.map none),.eV (.map none)=>true
  |_,_=>false
theorem B6:∀(n:Nat) (p q:PD),qE n p q=true->p=q
 |0,_,_,h=>by simp[qE]at h
 |n+1,p,q,h=>by
  have hl:∀a b:List PD,qZ (qE n) a b=true->a=b:=MP (B6 n)
  unfold qE at h
  split at h
  all_goals first
   |rfl
   |(cases h;done)
   |((try simp only[yAr,beq_iff_eq]at h)
     first
      |(rw[h])
      |(obtain⟨rfl,rfl⟩:=h;rfl)
      |(rw[hl _ _ h])
      |(obtain⟨rfl,h2,h3⟩:=h;rw[hl _ _ h3,aHD _ _ h2])
      |(obtain⟨rfl,h2⟩:=h;rw[hl _ _ h2])
      |(obtain⟨rfl,rfl,rfl,rfl⟩:=h;rfl)
      |(obtain⟨rfl,rfl,rfl,rfl,rfl⟩:=h;rfl)
      |(obtain⟨rfl,rfl,rfl⟩:=h;rfl)
      |(obtain⟨rfl,h2⟩:=h;rw[B6 n _ _ h2]))
structure aRZ where
 a:List PD
 s:List aB
 p:PD
 s':List aB
theorem aE.aHE{P:Program}{E:aD}(hE:aE P E)(hP:P.follows .mixedOrders=true){f:FuncId}{N:Nat}(h:(match MQ P E N 0 (.inl f) [] []with|some (.bool true,_)=>true|_=>false)=true) :
  aE P (E.add f (entry (uH Em.bool (some true)))):=by
 rw[RF]at h
 split at h
 ·rename_i σ1 hr
  exact hE.aFC hP hr
 ·cases h
def oE:List (List PD×PD)->List PD->Option PD
 | [],_=>none
 |r::rs,args=>if qZ (qE 40) (args.map PD.strip) r.1=true then some r.2 else oE rs args
theorem aAG:∀ {rs:List (List PD×PD)} {args:List PD} {p:PD},oE rs args=some p->∃r∈rs,args.map PD.strip=r.1/\p=r.2
 | [],_,_,h=>by cases h
 |r::rs,args,p,h=>by
  unfold oE at h
  split at h
  ·rename_i hc
   simp only[yAb]at h
   exact⟨r,by simp,MP (B6 40) _ _ hc,h.symm⟩
  ·obtain⟨r',hr,h'⟩:=aAG h
   exact⟨r',by simp[hr],h'⟩
def eS(P:Program)(E:aD)(N:Nat)(f:FuncId)(r:List PD×PD):Bool:=
 PD.eM r.1&&(match MQ P E N 0 (.inl f) r.1 []with
  |some (p1,σ1)=>(bA σ1 20 p1).aY&&qE 40 (bA σ1 20 p1).strip r.2
  |none=>false)
theorem aE.xS{P:Program}{E:aD}(hE:aE P E)(hP:P.follows .mixedOrders=true){f:FuncId}{N:Nat}(rs:List (List PD×PD))(h:(rs.all (eS P E N f))=true) :
  aE P (E.add f (fun _ args σ=>match oE rs args with|some p=>some (p,σ)|none=>none)):=by
 refine hE.aAH hP fun args p hg=>?_
 obtain⟨r,hr,ha,rfl⟩:=aAG hg
 have hx:=yAn.1 h r hr
 simp only[eS,yAr]at hx
 obtain⟨h1,h2⟩:=hx
 split at h2
 ·rename_i p1 σ1 hrun
  simp only[yAr]at h2
  rw[RF]at hrun
  exact⟨N,20,p1,σ1,by rw[ha];exact hrun,B6 40 _ _ h2.2,h2.1,by rw[ha];exact h1⟩
 ·cases h2
theorem aS.unique:True:=trivial
theorem aE.pick{P:Program}{E E0:aD}(hE:aE P E)(h0:aE P E0){f:FuncId}{g}(h:E f=some g):aE P (E0.add f g):=by
 intro F fl f' g' args c vs p σ' hF hg hgo hs hX hv
 unfold aD.add at hg
 split at hg
 ·rename_i e
  subst e
  simp only[yAb]at hg;subst hg
  exact hE hF h hgo hs hX hv
 ·exact h0 hF hg hgo hs hX hv
section
open Go Go.RowKit
theorem aA3{P:Program}{w:World}{nm:String}{d:DataW Unit}:∀ {laid:List (String×DataW Unit)} {ps:List MemPlace},DataW.LaidVars P w laid ps->(nm,d)∈laid ->
  ∃g t cs fuel p,P.globalNamed nm=some g/\(P.globals[g]?).map (·.type)=some t/\w.var? P nm=some cs/\DataW.trod (fun _=>()) P w 0 (fun _=>true) false fuel t cs.toList=some (d,p)
 | [],_,_,hm=>by cases hm
 |(n,d')::r,ps,h,hm=>by
  obtain⟨g,t,cs,fuel,p,q,h1,h2,h3,h4,h5,_⟩:=h
  rcases List.mem_cons.1 hm with e|hm
  ·simp only[yAc]at e
   obtain⟨rfl,rfl⟩:=e
   exact⟨g,t,cs,fuel,p,h1,h2,h3,h4⟩
  ·exact aA3 h5 hm
theorem PG{P:Program}{w:World}{laid:List (String×DataW Unit)}{ps:List MemPlace}{nm:String}{k:IntKind}{xs:List Int}{g n:Nat}{t e:TypeId}(h:DataW.LaidVars P w laid ps)
  (hm:(nm,(.agg (xs.map fun x=>.lit (.int k x)):DataW Unit))∈laid)
  (hg:P.globalNamed nm=some g) (ht:(P.globals[g]?).map (·.type)=some t) (hu:P.underlying t=some (.array n e)) (he:P.underlying e=some (.int k)) (hc:P.cellsOf e=1) (hct:P.cellsOf t=n) :
  ∃T fz,w.heap[g]?=some (.cells ((xs.map (Value.int k)).toArray) T fz):=by
 obtain⟨g1,t1,EN,f1,p1,lV,P6,nY,tM⟩:=aA3 h hm
 obtain rfl:=Option.some.inj (hg.symm.trans lV)
 obtain rfl:=Option.some.inj (ht.symm.trans P6)
 obtain⟨ys,m1,rfl,hx1,hlen,hn,hel⟩:=DataW.trod_array hu tM
 simp only[yAc,DataW.agg.injEq]at hx1
 have hxl:xs.length=n:=by
  have:=congrArg List.length hx1.1
  simp only[yAe]at this
  omega
 have key:∀(j:Nat) (x:Int),xs[j]?=some x->EN[j]?=some (Value.int k x):=by
  intro j x hj
  have hjl:j<n:=by rw[<-hxl];exact(yA.1 hj).1
  have hy:ys[j]?=some ys[j]:=yAh (by omega)
  have h1:=hel j hjl
  rw[hy,hc,Nat.mul_one]at h1
  obtain⟨v,e1,e2,_⟩:=DataW.trod_int he h1
  have h2:=congrArg (fun l=>l[j]?) hx1.1
  simp only[yAo,hj,hy,yBc,yAb,e2,DataW.lit.injEq,Lit.int.injEq]at h2
  have h3:=congrArg (fun l=>l[0]?) e1
  simp only[yAv,List.getElem?_drop,Nat.add_zero,Nat.zero_lt_one,if_true,List.getElem?_cons_zero]at h3
  rw[<-Array.getElem?_toList,h3,h2.2]
 have hcs:EN=(xs.map (Value.int k)).toArray:=by
  apply Array.ext'
  apply List.ext_getElem?
  intro j
  rw[yAo]
  cases hx:xs[j]? with
  |some x=>rw[Array.getElem?_toList,key j x hx];rfl
  |none=>
   have hj:xs.length<=j:=List.getElem?_eq_none_iff.1 hx
   rw[List.getElem?_eq_none (by rw[hlen,hct];omega)]
   rfl
 have hv:=nY
 unfold World.var? at hv
 rw[hg,Option.bind_some]at hv
 split at hv
 ·rename_i cs T fz hh
  simp only[yAb]at hv
  exact⟨T,fz,by rw[hh,hv,hcs]⟩
 ·cases hv
theorem PH{w:World}{g:Nat}{k:IntKind}{xs:List Int}{T:TypeId}{fz:Nat×Nat}(h:w.heap[g]?=some (.cells ((xs.map (Value.int k)).toArray) T fz)):VR (.start w) (.pointer (some ⟨g,0,none⟩)) (.eF (xs.map (PD.int k)) 0):=by
 have hadd:∀j,(⟨g,0,none⟩:Addr).add j=⟨g,j,none⟩:=fun j=>by unfold Addr.add;split<;>simp_all
 have:=VR.eF (c:=.start w) ⟨g,0,none⟩ (xs.map (Value.int k)) (xs.map (PD.int k)) 0 (by simp) (by simp[Value.oneCell']) (fun j v hj=>by
  rw[hadd]
  refine⟨?_,YC _⟩
  show w.cell? ⟨g,j,none⟩=some v
  unfold World.cell?
  simp only[h]
  simpa using hj) (fun j v d h1 h2=>by
  rw[yAo]at h1 h2
  cases hx:xs[j]? with
  |none=>rw[hx]at h1;simp at h1
  |some x=>
   rw[hx]at h1 h2
   simp only[yBc,yAb]at h1 h2
   subst h1 h2
   exact .int k x)
 rw[hadd]at this
 exact this
theorem aFn{P:Program}{w:World}{g:Nat}{t:TypeId}{k:IntKind}{zero:Array Value}(h:w.ShapedOpen P)(hg:g<P.globals.size)
  (h0:((begin P (fun _ _=>0) default).world.heap[g]?).bind Obj.row?=some (zero,t)) (hz:zero.size=1) (hb:P.buildable t=true) (hty:P.cellTypes P.depth t=some [t]) (hu:P.underlying t=some (.int k)) :
  ∃m,∃T fz,w.heap[g]?=some (.cells #[.int k m] T fz):=by
 obtain⟨cs,h1,h2,h3⟩:=h.1 g zero t hg h0
 have h4:=h3 hb
 obtain⟨ts,e1,_,h5⟩:=h4
 obtain rfl:=Option.some.inj (hty.symm.trans e1)
 have hsz:cs.size=1:=by omega
 obtain⟨u,e2,h6⟩:=h5 0 cs[0] (Array.getElem?_eq_getElem (by omega))
 simp only[List.length_singleton,Nat.zero_mod,List.getElem?_cons_zero,yAb]at e2
 subst e2
 unfold Cell.ok at h6
 rw[hu]at h6
 have hv:∃m,cs[0]=.int k m:=by
  cases hc:cs[0]with
  |int k' m=>
   rw[hc]at h6
   simp only at h6
   exact⟨m,by rw[h6.1]⟩
  |_=>
   rw[hc]at h6
   simp at h6
 obtain⟨m,hm⟩:=hv
 refine⟨m,t,(0,0),?_⟩
 rw[h1]
 have:cs=#[.int k m]:=by
  apply Array.ext
  ·simpa using hsz
  ·intro i hi1 hi2
   have:i=0:=by omega
   subst this
   simpa using hm
 rw[this]
end
section
open Go Go.RowKit
theorem aFd{H:Type}{enc:TypeId×Value->H}{a:Assume}{C:Checked}{os:Os}{f:FuncId}{fn:Func}{s:ChangeSpec}{conds:List PathCond}{apart fresh handsOn again:Bool}{X:World->Array Value->Prop}
  (hX:∀(w w':World) (args:Array Value),w.heap=w'.heap->X w args->X w' args)
  (own:ownKnob C.prog.godebug=none) (started:os.Started) (noInit:C.prog.inits.idxOf? f=none) (hfn:C.prog.funcs[f]?=some fn)
  (witness:∃(w:World) (tape:Tape) (i:Input),w.os=os/\(w.forCall tape i).Shaped C.prog/\i.vars=[]/\Input.okWide C.prog (w.forCall tape i) .any w.heap.size f i /\
   ((s.pre enc C.prog fn conds apart (w.forCall tape i).memory i.args/\X (w.forCall tape i).memory i.args)/\sizedMet enc C.prog fn (OpenSpec.ofChange s) apart (w.forCall tape i).memory i.args)/\a.holds C.prog (lone (Frame.enter C.prog f i.args .normal) [] (w.forCall tape i)))
  (contract:∀(W:World) (base:Nat) (args:Array Value) (ds gs:List (DataW H)) (before:List MemPlace),W.ShapedOpen C.prog ->
   (∀(j:Nat) t v,fn.params[j]?=some t->args[j]?=some v->Value.okWide C.prog W .any base t v) ->
   DataW.Whole enc C.prog fn.params.toList s.vars apart W args.toList ds gs before ->
   conds.all (PathCond.test C.prog ⟨fn.params.toList,ds,s.plain.varTypes C.prog,gs⟩)=true ->
   (DataW.weightsEach C.prog (fn.params.toList++s.plain.varTypes C.prog) (ds++gs)).all (·<=reachBytes)=true->X W args ->
   a.holds C.prog (lone (Frame.enter C.prog f args .normal) [] W) ->
   Calls C.prog f args W fun e W'=>∃v,e=.returned v/\s.post enc C.prog fn apart fresh handsOn again W args v W') :
  ReturnsInHanded a C os f .any (fun w args=>(s.pre enc C.prog fn conds apart w args/\X w args)/\sizedMet enc C.prog fn (OpenSpec.ofChange s) apart w args) (s.post enc C.prog fn apart fresh handsOn again):=by
 refine returnsInHanded_of_calls own started noInit witness ?_
 intro w tape i _ hsh _ hok hpre hholds
 obtain⟨_,_,_,fn',aH2,_,_,_,_,hval⟩:=hok
 obtain rfl:fn'=fn:=Option.some.inj (aH2.symm.trans hfn)
 obtain⟨⟨⟨ds,gs,before,hw,hc⟩,hx⟩,hz⟩:=hpre
 have hw':=DataW.Whole.of_heap (w':=w.forCall tape i) (by rfl) hw
 refine(contract (w.forCall tape i) w.heap.size i.args ds gs before hsh hval hw' hc (hz.weights hw) (hX _ _ _ (by rfl) hx) hholds).mono fun e W' ⟨v,he,hp⟩=>?_
 subst he
 exact ChangeSpec.post_blind hp
end
section
open Go.RowKit
section
variable{H:Type}{enc:TypeId×Value->H}{P:Program}{w:World}{base:Nat}{sp:Nat->Bool}{held:Bool}
end
end
section
open Go
section
variable{P:Program}{call:dD}{fl:Nat}{ops:Array Oper}
end
section
variable{P:Program}{E:aD}{fl:Nat}{fr:List PD}{σ:List aB}
end
section
variable{P:Program}{call:dD}{fl:Nat}{ops:Array Oper}
end
section
variable{P:Program}{E:aD}{fl:Nat}{fr:List PD}{σ:List aB}
end
end
def AA(e:TypeId)(bs:List UInt8)(σ:List aB):PD×List aB:=if bs=[]then(.slice 0 [] .full,σ)else(.aF σ.length 0 0 bs.length 1,σ++[.row e 1 0 (bs.map fun b=>.int .u8 b.toNat)])
def fV(e:TypeId)(g:List PD->Option (List UInt8)):Nat->List PD->List aB->Option (PD×List aB):=fun _ args σ=>match g (args.map PD.strip)with
 |some bs=>some (AA e bs σ)
 |none=>none
def iS(P:Program)(E:aD)(e:TypeId)(f:FuncId)(args:List PD)(bs:List UInt8):Prop:=
 ∃p1 σ1,mD P E 0 (.inl f) args [] p1 σ1/\((bs=[]/\p1=.slice 0 [] .full)\/(bs≠[]/\∃k v,p1=.aF k v 0 bs.length 1/\σ1[k]?=some (.row e 1 v (bs.map fun b=>.int .u8 b.toNat))))
theorem aE.R6{P:Program}{E:aD}(hE:aE P E)(hP:P.follows .mixedOrders=true){e:TypeId}{f:FuncId}{g:List PD->Option (List UInt8)}
  (h:∀args bs,g args=some bs->iS P E e f args bs/\PD.eM args=true):aE P (E.add f (fV e g)):=by
 intro F fl f' g' args c vs p σ' hF hg hgo hs hX hv
 unfold aD.add at hg
 split at hg
 rotate_left
 ·exact hE hF hg hgo hs hX hv
 rename_i e0
 subst e0
 simp only[yAb]at hg;subst hg
 unfold fV at hgo
 split at hgo
 rotate_left
 ·cases hgo
 rename_i bs hga
 simp only[yAb]at hgo
 obtain⟨⟨p1,σ1,⟨N,hN⟩,hp⟩,e2⟩:=h _ _ hga
 have gH:aQ c.bare vs (args.map PD.strip):=hv.strip.free (fun a v h1 h2=>⟨(LP a).2 h1,h2⟩) e2
 have:=(vX hE hP hF N).fn (c:=c.bare) (hN N (yAk _)) hs.bare (fun _ _ h=>h.elim) gH
 refine⟨this.1,fun m=>CallsIn.mono (this.2 m) fun en w' he=>?_⟩
 cases en with
 |panicked ch=>exact he.elim
 |outgrown=>exact he.elim
 |returned v=>
  obtain⟨c1,rfl,rfl,hs1,nx,hvv,_⟩:=he
  have hgr:c.w.grownBy c1.w none:=⟨nx.os,nx.tape,nx.output,nx.size,fun k hk _=>nx.frame k hk (fun _ h=>h.elim)⟩
  rcases hp with⟨rfl,rfl⟩ | ⟨hne,k,ver,rfl,hrow⟩
  ·simp only[AA,if_true,yAc]at hgo
   obtain⟨rfl,rfl⟩:=hgo
   refine⟨c.at c1.w,rfl,rfl,hs.grow hgr,Nx.grow hs hgr,?_,fun _ h=>.inl h⟩
   obtain⟨A,cap,dP,rfl,a1,a2,a3,a4,a5,a6,a7,a8⟩:=hvv.nW
   exact .slice A _ cap 0 [] .full dP rfl a1 a2 a3 a4 a5 (fun j v hj=>by
    have:dP.length=0:=by simpa using a4
    rw[yAf this]at hj
    cases hj) (fun j v d h1 h2=>by simp at h2) a8
  ·simp only[AA,if_neg hne,yAc]at hgo
   obtain⟨rfl,rfl⟩:=hgo
   obtain⟨b,cap,rfl,hp,h1,h2⟩:=hvv.wE
   obtain⟨_,C,hr,hC⟩:=(hp.2 _ _ _ _ hrow).2 rfl
   obtain⟨b',C',cur,r1,r2,r3,r4,r5,r6,r7,r8⟩:=hs1.row k e 1 ver _ hp.1 hrow
   rw[hr]at r1
   simp only[Value.slice.injEq,yAb,Addr.mk.injEq,and_true,true_and]at r1
   obtain⟨rfl,rfl⟩:=r1
   have hge:c.w.heap.size<=b:=by
    rcases Nat.lt_or_ge b c.w.heap.size with hlt|hge
    ·exact(nx.back k b hp.1 (by rw[hr];rfl) hlt).1.elim
    ·exact hge
   have hbk:∀b0,aV (.slice (some ⟨b,0,none⟩) 0 C)=some b0->c.w.heap.size<=b0:=fun b0 hb=>by
    simp only[aV,yAb]at hb
    omega
   have hflat:aQ c (cur.toList.take (bs.map fun b=>PD.int .u8 b.toNat).length) (bs.map fun b=>PD.int .u8 b.toNat):=⟨r7.1,fun i u d q1 q2=>(r7.2 i u d q1 q2).flat (by
    rw[yAo]at q2
    cases hj:bs[i]? with
    |none=>rw[hj]at q2;cases q2
    |some x=>
     rw[hj]at q2
     simp only[yBc,yAb]at q2
     rw[<-q2]
     rfl)⟩
   refine⟨c.push c1.w (.slice (some ⟨b,0,none⟩) 0 C) (.row e 1 0 (bs.map fun b=>.int .u8 b.toNat)),rfl,rfl,?_,Nx.push hs hgr hbk,?_,?_⟩
   ·refine Sr.push hs hgr (fun b0 hb=>⟨hbk b0 hb,?_⟩) ⟨b,C,cur,rfl,r2,r3,r4,r5,r6,hflat,r8⟩
    simp only[aV,yAb]at hb
    subst hb
    exact gJ r2
   ·refine .aF _ _ _ _ _ _ b ⟨.inr rfl,fun e' j8 v' cs hq=>?_⟩ h1 h2
    rw[fO.1]at hq
    simp only[yAb,aB.row.injEq]at hq
    obtain⟨rfl,rfl,rfl,rfl⟩:=hq
    exact⟨yAk _,fun _=>⟨rfl,C,fO.2.1,hC⟩⟩
   ·intro id hd
    rcases hd with hd|rfl
    ·exact .inl hd
    ·exact .inr ⟨yAk _,by simp⟩
theorem aI.by{E:aD}(hU:aI E){e:TypeId}{f:FuncId}{g:List PD->Option (List UInt8)}(h:∀args,g args≠some []):aI (E.add f (fV e g)):=hU.other fun args p hg=>by
 unfold fV at hg
 split at hg
 ·rename_i bs hb
  simp only[AA,yAb]at hg
  split at hg
  ·rename_i e0
   rw[e0]at hb
   exact h _ hb
  ·simp at hg
 ·cases hg
mutual
def PD.fF:PD->Bool
 |.bool _|.str _|.eN|.gU|.eV _=>true
 |.int k _=>decide (k≠.u8)
 |.agg cs=>PD.rF cs
 |.aH cs=>PD.rF cs
 |.slice _ xs _=>PD.rF xs
 |_=>false
def PD.rF:List PD->Bool
 | []=>true
 |x::xs=>x.fF&&PD.rF xs
end
theorem PD.VP:∀xs:List PD,PD.rF xs=xs.all PD.fF
 | []=>by simp[PD.rF]
 |x::xs=>by simp[PD.rF,PD.VP xs]
theorem OP{ds:List PD}{i:Nat}{d:PD}(h:PD.rF ds=true)(hd:ds[i]?=some d):d.fF=true:=by
 rw[PD.VP]at h
 exact yAn.1 h d (yBe hd)
theorem aNq{x:PD}(h:x.fF=true){d:PD}(hd:d∈x.cells):d.fF=true:=by
 cases x with
 |agg cs=>
  simp only[PD.fF]at h
  obtain⟨i,hi⟩:=List.getElem?_of_mem (show d∈cs from hd)
  exact OP h hi
 |typed t cs=>simp[PD.fF]at h
 |_=>simp only[PD.cells,List.mem_singleton]at hd;rw[hd];exact h
theorem aNr{c:Cx}{v:Value}{d:PD}(hv:VR c v d)(h:d.fF=true)(n:Int):v≠.int .u8 n:=by
 rintro rfl
 cases hv with
 |int k m=>simp[PD.fF]at h
 |eV v h2=>simp[ML]at h2
theorem VR.aDM{c c':Cx}(hw:c'.w=c.w)(hav:∀a,c.av a->c'.av a\/∀v,c.w.cell? a=some v->∃n,v=.int .u8 n){v:Value}{p:PD}(hv:VR c v p):p.fF=true->p.aY=true->VR c' v p:=by
 induction hv with
 |bool b=>intro _ _;exact .bool b
 |int k n=>intro _ _;exact .int k n
 |str s=>intro _ _;exact .str s
 |eN=>intro _ _;exact .eN
 |gU=>intro _ _;exact .gU
 |eV v h=>intro _ _;exact .eV v h
 |agg cs ds hl h1 h2 ih=>
  intro hp hf
  simp only[PD.fF]at hp
  simp only[PD.aY]at hf
  exact .agg cs ds hl h1 fun i u d hu hd=>ih i u d hu hd (OP hp hd) (uQ hf (yBe hd))
 |aH cs ds hl h2 ih=>
  intro hp hf
  simp only[PD.fF]at hp
  simp only[PD.aY]at hf
  exact .aH cs ds hl fun i u d hu hd=>ih i u d hu hd (OP hp hd) (uQ hf (yBe hd))
 |slice A n cap size xs tok fl hn hc hm hx hfl h1 hcell h2 ht ih=>
  intro hp hf
  simp only[PD.fF]at hp
  simp only[PD.aY,yAr]at hf
  have hno:∀(j:Nat) (d:PD),(xs.flatMap PD.cells)[j]?=some d->d.fF=true/\d.aY=true:=fun j d hd=>by
   obtain⟨y,hy,hyd⟩:=List.mem_flatMap.1 (yBe hd)
   obtain⟨i,hi⟩:=List.getElem?_of_mem hy
   exact⟨aNq (OP hp hi) hyd,RW (uQ hf.1 hy) hyd⟩
  have hlen:fl.length=(xs.flatMap PD.cells).length:=by rw[zB xs hx,hfl,hn]
  refine .slice A n cap size xs tok fl hn hc hm hx hfl h1 (fun j u hj=>?_) (fun j u d hj hd=>ih j u d hj hd (hno j d hd).1 (hno j d hd).2) ?_
  ·obtain⟨ad,e,g1,g2⟩:=hcell j u hj
   refine⟨ad,e,by rw[hw];exact g1,?_⟩
   rcases hav _ g2 with h|h
   ·exact h
   ·obtain⟨m,hm'⟩:=h u g1
    have hlt:j<(xs.flatMap PD.cells).length:=by rw[<-hlen];exact(yA.1 hj).1
    have hd:=yAh hlt
    exact absurd hm' (aNr (h2 j u _ hj hd) (hno j _ hd).1 m)
  ·cases tok with
   |own id=>exact absurd hf.2 (by simp)
   |any=>trivial
   |full=>exact ht
   |nil=>exact ht
   |pE=>exact ht
   |qY=>exact ht
 |ptr id off b hd hs hr=>intro _ hf;simp[PD.aY]at hf
 |dE id off n cap size b hd hs hr h1 h2=>intro _ hf;simp[PD.aY]at hf
 |aF id ver off n cap size b eQ h1 h2=>intro _ hf;simp[PD.aY]at hf
 |dQ id ver off b eQ=>intro _ hf;simp[PD.aY]at hf
 |fD id b hd hn hr=>intro _ hf;simp[PD.aY]at hf
 |iface t v p _ ih=>intro hp;simp[PD.fF]at hp
 |eF ad dP ds off hl h1 hcl _ ih=>intro hp;simp[PD.fF]at hp
 |func f cs ds hl _ ih=>intro hp;simp[PD.fF]at hp
 |dA f cs ds hl _ ih=>intro hp;simp[PD.fF]at hp
 |yield id l hd hn hr=>intro hp;simp[PD.fF]at hp
def AD:PD->Bool
 |.int .u8 _=>true
 |_=>false
def FB(σ:List aB)(id ver off n size:Nat):PD:=match σ[id]? with
 |some (.row _ sz eR cs)=>if eR=ver/\sz=1/\size=1/\off+n<=cs.length/\cs.all AD=true then .slice 1 ((cs.drop off).take n) .any else .aF id ver off n size
 |_=>.aF id ver off n size
def mH(σ:List aB):PD->PD
 |.aF id ver off n size=>FB σ id ver off n size
 |p=>p.strip
def Cx.OQ(c:Cx)(a:Addr):Prop:=∃id b e ver C ds,c.D id/\c.σ[id]?=some (.row e 1 ver ds)/\c.ρ id=.slice (some ⟨b,0,none⟩) 0 C/\ds.all AD=true/\a.off<ds.length/\a=⟨b,a.off,none⟩
def Cx.lY(c:Cx):Cx:={ w:=c.w,ρ:=fun _=>undef,σ:=[],D:=fun _=>False,X:=fun a=>c.av a\/c.OQ a }
theorem VQ{c:Cx}(a:Addr):c.lY.av a↔(c.av a\/c.OQ a):=⟨fun h=>h.1,fun h=>⟨h,fun _ _ hd=>hd.elim⟩⟩
theorem Sr.lY{c:Cx}(hs:Sr c):Sr c.lY where
 box:=fun _ _ h=>h.elim
 own:=fun _ _ _ _ h=>h.elim
 row:=fun _ _ _ _ _ h=>h.elim
 map:=fun _ _ h=>h.elim
 mark:=fun _ h=>h.elim
 loop:=fun _ _ _ _ _ _ h=>h.elim
 inj:=fun _ _ _ h=>h.elim
 lt:=fun _ _ h=>h.elim
 bF:=fun _ h=>h.elim
 fresh:=fun _ h=>.inl (YS hs h)
 jZ:=⟨fun g ds e=>(hs.jZ.1 g ds e).free (fun a v h1 h2=>⟨(VQ a).2 (.inl h1),h2⟩) (by simpa [PD.aY]using YT e),fun g hh=>⟨(hs.jZ.2 g hh).1,fun _ h=>h.elim⟩⟩
theorem JU{d:PD}(h:AD d=true):d.cells=[d]/\∃n,d=.int .u8 n:=by
 unfold AD at h
 split at h
 ·exact⟨rfl,_,rfl⟩
 ·cases h
theorem aDN:∀ {cs:List PD},(∀d∈cs,AD d=true)->cs.flatMap PD.cells=cs
 | [],_=>rfl
 |x::xs,h=>by
  rw[List.flatMap_cons,(JU (h x (by simp))).1,aDN (fun d hd=>h d (by simp[hd]))]
  rfl
theorem aDO{c:Cx}(hs:Sr c){v:Value}{p:PD}(hv:VR c v p)(hf:(mH c.σ p).aY=true):VR c.lY v (mH c.σ p):=by
 have up:∀a v,c.av a->c.w.cell? a=some v->c.lY.av a/\c.lY.w.cell? a=some v:=fun a v h1 h2=>⟨(VQ a).2 (.inl h1),h2⟩
 by_cases hr:∃id ver off n size,p=.aF id ver off n size
 ·obtain⟨id,ver,off,n,size,rfl⟩:=hr
  have eb:mH c.σ (.aF id ver off n size)=FB c.σ id ver off n size:=rfl
  rw[eb]at hf ⊢
  unfold FB at hf ⊢
  by_cases hx:∃e sz eR cs,c.σ[id]?=some (.row e sz eR cs)
  ·obtain⟨e,sz,eR,cs,hq⟩:=hx
   simp only[hq]at hf ⊢
   split at hf
   ·rename_i hc
    rw[if_pos hc]
    obtain⟨rfl,rfl,rfl,hle,hall⟩:=hc
    have aNs:∀d∈cs,AD d=true:=fun d hd=>yAn.1 hall d hd
    obtain⟨b,cap,rfl,hp,h1,h2⟩:=hv.wE
    obtain⟨_,C,hr,_⟩:=(hp.2 _ _ _ _ hq).2 rfl
    obtain⟨b',C',cur,r1,r2,r3,r4,r5,r6,r7,r8⟩:=hs.row id e 1 _ cs hp.1 hq
    rw[hr]at r1
    simp only[Value.slice.injEq,yAb,Addr.mk.injEq,and_true,true_and]at r1
    obtain⟨rfl,rfl⟩:=r1
    have hadd:∀j,(⟨b,off,none⟩:Addr).add j=⟨b,off+j,none⟩:=fun j=>by unfold Addr.add;split<;>simp_all
    have hsub:∀d∈(cs.drop off).take n,AD d=true:=fun d hd=>aNs d (List.mem_of_mem_drop (yAy hd))
    have hcl:(cur.toList.take cs.length).length=cs.length:=r7.1
    refine .slice (some ⟨b,off,none⟩) n cap 1 _ .any (((cur.toList.take cs.length).drop off).take n) ?_ h1 h2 (fun x hx=>by rw[(JU (hsub x hx)).1];rfl) ?_ (fun v hv=>r8 v (yAy (List.mem_of_mem_drop (yAy hv)))) (fun j v hj=>?_) (fun j v d hj hd=>?_) trivial
    ·rw[yAt,List.length_drop];omega
    ·rw[yAt,List.length_drop,hcl];omega
    ·rw[yAv]at hj
     split at hj
     ·rename_i hjn
      rw[List.getElem?_drop,yAv]at hj
      split at hj
      ·rename_i hlt
       refine⟨_,rfl,?_,(VQ _).2 (.inr ?_)⟩
       ·rw[hadd]
        show c.w.cell? ⟨b,off+j,none⟩=some v
        simp only[World.cell?,r2]
        simpa using hj
       ·rw[hadd]
        exact⟨id,b,e,_,C,cs,hp.1,hq,hr,hall,hlt,rfl⟩
      ·cases hj
     ·cases hj
    ·rw[aDN hsub]at hd
     exact((r7.take_drop off n).2 j v d hj hd).flat (by
      obtain⟨m,rfl⟩:=(JU (hsub d (yBe hd))).2
      rfl)
   ·simp[PD.aY]at hf
  ·exfalso
   cases ho:c.σ[id]? with
   |none=>simp[ho,PD.aY]at hf
   |some o=>
    cases o with
    |row e sz eR cs=>exact hx ⟨_,_,_,_,ho⟩
    |_=>simp[ho,PD.aY]at hf
 ·have e:mH c.σ p=p.strip:=by
   cases p<;>first|rfl|exact absurd ⟨_,_,_,_,_,rfl⟩ hr
  rw[e]at hf ⊢
  exact hv.strip.free up hf
def fW(g:List PD->Option PD):Nat->List PD->List aB->Option (PD×List aB):=fun _ args σ=>
 if PD.eM (args.map (mH σ))=true then(match g (args.map (mH σ))with|some p=>if (p.fF&&p.aY)=true then some (p,σ)else none|none=>none)else none
theorem aE.NM{P:Program}{E:aD}(hE:aE P E)(hP:P.follows .mixedOrders=true){f:FuncId}{g:List PD->Option PD}
  (h:∀args p,g args=some p->aS P E f args p):aE P (E.add f (fW g)):=by
 intro F fl f' g' args c vs p σ' hF hg hgo hs hX hv
 unfold aD.add at hg
 split at hg
 rotate_left
 ·exact hE hF hg hgo hs hX hv
 rename_i e0
 subst e0
 simp only[yAb]at hg;subst hg
 unfold fW at hgo
 split at hgo
 rotate_left
 ·cases hgo
 rename_i hid
 split at hgo
 rotate_left
 ·cases hgo
 rename_i q hga
 split at hgo
 rotate_left
 ·cases hgo
 rename_i hno
 simp only[yAr]at hno
 simp only[yAb,yAc]at hgo
 obtain⟨rfl,rfl⟩:=hgo
 obtain⟨p1,σ1,⟨N,hN⟩,e1⟩:=h _ q hga
 have gH:aQ c.lY vs (args.map (mH c.σ)):=by
  refine⟨by rw[yAe];exact hv.1,fun i v q h1 h2=>?_⟩
  rw[yAo]at h2
  cases h0:args[i]? with
  |none=>rw[h0]at h2;cases h2
  |some p=>
   rw[h0]at h2
   simp only[yBc,yAb]at h2
   subst h2
   exact aDO hs (hv.2 i v p h1 h0) (uQ hid (yAw.2 ⟨p,yBe h0,rfl⟩))
 have:=(vX hE hP hF N).fn (c:=c.lY) (hN N (yAk _)) hs.lY (fun _ _ h=>h.elim) gH
 refine⟨this.1,fun m=>CallsIn.mono (this.2 m) fun en w' he=>?_⟩
 cases en with
 |panicked ch=>exact he.elim
 |outgrown=>exact he.elim
 |returned v=>
  obtain⟨c1,rfl,rfl,hs1,nx,hvv,_⟩:=he
  have hgr:c.w.grownBy c1.w none:=⟨nx.os,nx.tape,nx.output,nx.size,fun k hk _=>nx.frame k hk (fun _ h=>h.elim)⟩
  have hsc:=hs.grow hgr
  refine⟨c.at c1.w,rfl,rfl,hsc,Nx.grow hs hgr,?_,fun _ h=>.inl h⟩
  have hgrB:c.lY.w.grownBy c1.w none:=hgr
  have hav:∀a,c1.av a->(c.lY.at c1.w).av a:=fun a h1=>by
   have h3:c1.X a:=h1.1
   rw[nx.X]at h3
   exact⟨h3,fun _ _ hd=>hd.elim⟩
  have hT:=hvv.strip
  rw[e1]at hT
  replace hT:VR (c.lY.at c1.w) v q:=hT.free (fun a u h1 h2=>⟨hav a h1,h2⟩) hno.2
  refine VR.aDM (c:=c.lY.at c1.w) (c':=c.at c1.w) rfl (fun a ha=>?_) hT hno.1 hno.2
  have HR:c.av a\/c.OQ a:=ha.1
  rcases HR with h | ⟨id,b,e,ver,C,ds,d1,d2,d3,d4,d5,d6⟩
  ·exact .inl h
  ·refine .inr fun u hu=>?_
   obtain⟨b',C',cur,r1,r2,r3,r4,r5,r6,r7,r8⟩:=hsc.row id e 1 ver ds d1 d2
   have uV:(c.at c1.w).ρ id=.slice (some ⟨b,0,none⟩) 0 C:=d3
   rw[uV]at r1
   simp only[Value.slice.injEq,yAb,Addr.mk.injEq,and_true,true_and]at r1
   obtain⟨rfl,rfl⟩:=r1
   have mW:c1.w.cell? a=some u:=hu
   rw[d6]at mW
   have WZ:c1.w.heap[b]?=some (.cells cur e (0,0)):=r2
   simp only[World.cell?,WZ]at mW
   have hds:ds[a.off]?=some ds[a.off]:=yAh d5
   obtain⟨m,hm⟩:=(JU (yAn.1 d4 _ (yAm d5))).2
   have hc:(cur.toList.take ds.length)[a.off]?=some u:=by
    rw[yAv,if_pos d5]
    simpa using mW
   have:=r7.2 a.off u _ hc hds
   rw[hm]at this
   exact⟨m,this.nV⟩
theorem aE.aPd{P:Program}{E:aD}(hE:aE P E)(hP:P.follows .mixedOrders=true){f:FuncId}{g:List PD->Option PD}
  (h:∀args p,g args=some p->∃N k p1 σ1,iP P E N 0 (.inl f) args []=some (p1,σ1)/\(bA σ1 k p1).strip=p/\(bA σ1 k p1).aY=true):aE P (E.add f (fW g)):=by
 intro F fl f' g' args c vs p σ' hF hg hgo hs hX hv
 unfold aD.add at hg
 split at hg
 rotate_left
 ·exact hE hF hg hgo hs hX hv
 rename_i e0
 subst e0
 simp only[yAb]at hg;subst hg
 unfold fW at hgo
 split at hgo
 rotate_left
 ·cases hgo
 rename_i hid
 split at hgo
 rotate_left
 ·cases hgo
 rename_i q hga
 split at hgo
 rotate_left
 ·cases hgo
 rename_i hno
 simp only[yAr]at hno
 simp only[yAb,yAc]at hgo
 obtain⟨rfl,rfl⟩:=hgo
 obtain⟨N,k,p1,σ1,hN,e1,e3⟩:=h _ q hga
 have gH:aQ c.lY vs (args.map (mH c.σ)):=by
  refine⟨by rw[yAe];exact hv.1,fun i v q h1 h2=>?_⟩
  rw[yAo]at h2
  cases h0:args[i]? with
  |none=>rw[h0]at h2;cases h2
  |some p=>
   rw[h0]at h2
   simp only[yBc,yAb]at h2
   subst h2
   exact aDO hs (hv.2 i v p h1 h0) (uQ hid (yAw.2 ⟨p,yBe h0,rfl⟩))
 have:=(vX hE hP hF N).fn (c:=c.lY) (hN) hs.lY (fun _ _ h=>h.elim) gH
 refine⟨this.1,fun m=>CallsIn.mono (this.2 m) fun en w' he=>?_⟩
 cases en with
 |panicked ch=>exact he.elim
 |outgrown=>exact he.elim
 |returned v=>
  obtain⟨c1,rfl,rfl,hs1,nx,hvv,_⟩:=he
  have hgr:c.w.grownBy c1.w none:=⟨nx.os,nx.tape,nx.output,nx.size,fun k hk _=>nx.frame k hk (fun _ h=>h.elim)⟩
  have hsc:=hs.grow hgr
  refine⟨c.at c1.w,rfl,rfl,hsc,Nx.grow hs hgr,?_,fun _ h=>.inl h⟩
  have hgrB:c.lY.w.grownBy c1.w none:=hgr
  have hav:∀a,c1.av a->(c.lY.at c1.w).av a:=fun a h1=>by
   have h3:c1.X a:=h1.1
   rw[nx.X]at h3
   exact⟨h3,fun _ _ hd=>hd.elim⟩
  have hnew:∀id b,c1.D id->aV (c1.ρ id)=some b->∀j,(c.lY.at c1.w).av ⟨b,j,none⟩:=fun id b hd hb j=>by
   have hge:c.w.heap.size<=b:=by
    rcases Nat.lt_or_ge b c.w.heap.size with hlt|hge
    ·exact(nx.back id b hd hb hlt).1.elim
    ·exact hge
   exact⟨hs.lY.fresh _ hge,fun _ _ hd=>hd.elim⟩
  have hT:=(aAY hs1 (c2:=c.lY.at c1.w) rfl hav hnew k v p1 hvv e3).strip
  rw[e1]at hT
  refine VR.aDM (c:=c.lY.at c1.w) (c':=c.at c1.w) rfl (fun a ha=>?_) hT hno.1 hno.2
  have HR:c.av a\/c.OQ a:=ha.1
  rcases HR with h | ⟨id,b,e,ver,C,ds,d1,d2,d3,d4,d5,d6⟩
  ·exact .inl h
  ·refine .inr fun u hu=>?_
   obtain⟨b',C',cur,r1,r2,r3,r4,r5,r6,r7,r8⟩:=hsc.row id e 1 ver ds d1 d2
   have uV:(c.at c1.w).ρ id=.slice (some ⟨b,0,none⟩) 0 C:=d3
   rw[uV]at r1
   simp only[Value.slice.injEq,yAb,Addr.mk.injEq,and_true,true_and]at r1
   obtain⟨rfl,rfl⟩:=r1
   have mW:c1.w.cell? a=some u:=hu
   rw[d6]at mW
   have WZ:c1.w.heap[b]?=some (.cells cur e (0,0)):=r2
   simp only[World.cell?,WZ]at mW
   have hds:ds[a.off]?=some ds[a.off]:=yAh d5
   obtain⟨m,hm⟩:=(JU (yAn.1 d4 _ (yAm d5))).2
   have hc:(cur.toList.take ds.length)[a.off]?=some u:=by
    rw[yAv,if_pos d5]
    simpa using mW
   have:=r7.2 a.off u _ hc hds
   rw[hm]at this
   exact⟨m,this.nV⟩
def KN:List (List PD×PD)->List PD->Option PD
 | [],_=>none
 |r::rs,args=>if qZ (qE 40) args r.1=true then some r.2 else KN rs args
theorem aEy:∀ {rs:List (List PD×PD)} {args:List PD} {p:PD},KN rs args=some p->∃r∈rs,args=r.1/\p=r.2
 | [],_,_,h=>by cases h
 |r::rs,args,p,h=>by
  unfold KN at h
  split at h
  ·rename_i hc
   simp only[yAb]at h
   exact⟨r,by simp,MP (B6 40) _ _ hc,h.symm⟩
  ·obtain⟨r',hr,h'⟩:=aEy h
   exact⟨r',by simp[hr],h'⟩
theorem aE.aPe{P:Program}{E:aD}(hE:aE P E)(hP:P.follows .mixedOrders=true){f:FuncId}{N:Nat}(rs:List (List PD×PD))(h:(rs.all (eS P E N f))=true) :
  aE P (E.add f (fW (KN rs))):=by
 refine hE.aPd hP fun args p hg=>?_
 obtain⟨r,hr,rfl,rfl⟩:=aEy hg
 have hx:=yAn.1 h r hr
 simp only[eS,yAr]at hx
 obtain⟨h1,h2⟩:=hx
 split at h2
 ·rename_i p1 σ1 hrun
  simp only[yAr]at h2
  rw[RF]at hrun
  exact⟨N,20,p1,σ1,hrun,B6 40 _ _ h2.2,h2.1⟩
 ·cases h2
end Go.Kz
end
