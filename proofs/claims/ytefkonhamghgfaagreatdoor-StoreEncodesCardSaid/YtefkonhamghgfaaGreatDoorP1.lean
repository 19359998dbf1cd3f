/-
  Part P1 of the way: an interpreter over pure data, its soundness, walks through functions.
-/
import Derived.WalkKit
import Derived.Maps.AppendAt
import Derived.Lib.FrozenHead
import Derived.CallsIn
import Derived.Laws.StructEq
import Derived.Laws.Entries
import Derived.Laws.Tables
import Derived.ArgAppend
import Derived.Deep.DeepAppendRoom
import Derived.RangeFuncRecord
import Derived.Lib.ConvBytes
import Derived.Laws.BytesString
import Derived.Laws.MakeOwn
set_option linter.all false

set_option maxHeartbeats 40000000
namespace Go.Kz
theorem An {a b:Prop}(h:a)(k:b):a∧b:=⟨h,k⟩
theorem gn {α:Sort _}(e:α):∃x,e=x:=⟨_,rfl⟩
def yA:=@List.getElem?_eq_some_iff
def yAa:=@List.length_append
def yAb:=@Option.some.injEq
def yAc:=@Prod.mk.injEq
def yAd:=@List.getElem?_set_ne
def yAe:=@List.length_map
def yAf:=@List.eq_nil_of_length_eq_zero
def yAg:=@List.getElem?_append_left
def yAh:=@List.getElem?_eq_getElem
def yAi:=@List.append_assoc
def yAj:=@List.getElem?_set_self
def yAk:=@Nat.le_refl
def yAl:=@List.append_nil
def yAm:=@List.getElem_mem
def yAn:=@List.all_eq_true
def yAo:=@List.getElem?_map
def yAp:=@Nat.zero_add
def yAq:=@List.drop_eq_getElem_cons
def yAr:=@Bool.and_eq_true
def yAs:=@List.drop_eq_nil_of_le
def yAt:=@List.length_take
def yAu:=@decide_eq_decide
def yAv:=@List.getElem?_take
def yAw:=@List.mem_map
def yAx:=@Bool.false_eq_true
def yAy:=@List.mem_of_mem_take
def yAz:=@List.take_of_length_le
def yBa:=@List.getD_eq_getElem?_getD
def yBb:=@List.getElem?_concat_length
def yBc:=@Option.map_some
def yBd:=@List.length_set
def yBe:=@List.mem_of_getElem?
def yBf:=@Nat.zero_le
def yBg:=@List.map_congr_left
def yBh:=@List.map_append
def vO:Nat->Option (IntKind×List Int):=fun g=>if g=1 then some (.u64,[1,10,100,1000,10000,100000,1000000,10000000,100000000,1000000000,10000000000,100000000000,1000000000000,10000000000000,100000000000000,1000000000000000,10000000000000000,100000000000000000,1000000000000000000,10000000000000000000])else if g=2 then some (.u8,[0,1,28,2,29,14,24,3,30,22,20,15,25,17,4,8,31,27,13,23,21,19,16,7,26,12,18,6,11,5,10,9])else if g=3 then some (.u8,[0,1,56,2,57,49,28,3,61,58,42,50,38,29,17,4,62,47,59,36,45,43,51,22,53,39,33,30,24,18,12,5,63,55,48,27,60,41,37,16,46,35,44,21,52,32,23,11,54,26,40,15,34,20,31,10,25,14,19,9,13,8,7,6])else none
def DS:Nat->Option IntKind:=fun g=>if g=0 then some .i64 else none
@[simp] def LL:Nat->Bool:=fun t=>decide (t=272)
@[simp] def BF:Nat->Nat->Bool:=fun s d=>decide (s=9)&&decide (d=30)||decide (s=30)&&decide (d=9)
@[simp] def aHt:Nat->Bool:=fun t=>decide (t=30)||decide (t=248)
@[simp] def aHw:Nat->Bool:=fun t=>decide (t=32)||decide (t=33)||decide (t=34)||decide (t=69)||decide (t=72)||decide (t=110)||decide (t=30)
@[simp] def aHx:Nat->Nat->Bool:=fun t n=>decide (n=153)||decide (n=158)||decide (n=39)||(decide (t=34)&&decide (n=275))||(decide (t=30)&&decide (n=24))||(decide (t=30)&&decide (n=17))
@[simp] def iF(t n:Nat):Bool:=aHw t&&!aHx t n
section
open Go.RowKit
inductive Tok where
 |any
 |full
 |nil
 |pE
 |qY
 |own (id:Nat)
inductive PD where
 |bool (b:Bool)
 |int (k:IntKind) (n:Int)
 |str (s:List UInt8)
 |agg (cs:List PD)
 |slice (size:Nat) (xs:List PD) (tok:Tok)
 |ptr (id off:Nat)
 |eF (cs:List PD) (off:Nat)
 |eN
 |func (f:Nat) (cap:List PD)
 |dA (f:Nat) (first:List PD)
 |yield (id:Nat)
 |gU
 |eV (v:Value)
 |typed (t:TypeId) (cs:List PD)
 |dE (id off n size:Nat)
 |aF (id ver off n size:Nat)
 |dQ (id ver off:Nat)
 |fD (id:Nat)
 |iface (t:TypeId) (p:PD)
 |aH (vs:List PD)
instance:Inhabited PD:=⟨.aH []⟩
def PD.cells:PD->List PD
 |.agg cs=>cs
 |.typed _ cs=>cs
 |p=>[p]
inductive EH where
 |ready
 |busy
 |done (jump:Code)
inductive aB where
 |none
 |box (p:PD)
 |own (e:TypeId) (size n:Nat)
 |row (e:TypeId) (size ver:Nat) (cs:List PD)
 |map (es:List (PD×PD))
 |mark
 |loop (st:EH) (fr:List PD) (ps:List Tmp) (assign body:Code)
def EH.fits(r:Loop):EH->Prop
 |.ready=>r.state=.ready/\r.pending=none
 |.busy=>r.state=.busy
 |.done j=>r.state=.done/\r.pending=some j
def lU:Option aB->Prop
 |some (.own _ _ _)=>False
 |some (.row _ _ _ _)=>False
 |_=>True
def aV:Value->Option Nat
 |.pointer (some a)=>some a.block
 |.slice (some a) _ _=>some a.block
 |.map r=>r
 |_=>none
def aB.aHu(v:Value)(a:Addr):aB->Prop
 |.none=>True
 |.box _=>∀b,aV v=some b->a.block≠b
 |.own _ size n=>∀b,aV v=some b->a.block=b->a.off<n*size
 |.row _ _ _ _=>∀b,aV v=some b->a.block≠b
 |.map _=>True
 |.mark=>True
 |.loop _ _ _ _ _=>True
structure Cx where
 w:World
 ρ:Nat->Value
 σ:List aB
 D:Nat->Prop
 X:Addr->Prop
def Cx.av(c:Cx)(a:Addr):Prop:=c.X a/\∀id o,c.D id->c.σ[id]?=some o->o.aHu (c.ρ id) a
def qB(c:Cx)(size n cap:Nat)(v:Value):Tok->Prop
 |.any=>True
 |.full=>n=cap
 |.nil=>v=.slice none 0 0/\n=0/\cap=0
 |.pE=>∃k m,v=.slice none k m
 |.qY=>∃a k m,v=.slice (some a) k m
 |.own id=>c.D id/\∃e m,c.σ[id]?=some (.own e size m)/\n<=m/\(n=m->c.ρ id=v)
def B0(c:Cx)(id ver:Nat)(Q:Nat->Value->Prop):Prop:=c.D id/\∀e sz eR cs,c.σ[id]?=some (.row e sz eR cs)->ver<=eR/\(ver=eR->Q sz (c.ρ id))
def ML:Value->Bool
 |.nilIface=>true
 |.map none=>true
 |.chan none=>true
 |.float _ _=>true
 |_=>false
inductive VR (c:Cx):Value->PD->Prop where
 |bool (b:Bool):VR c (.bool b) (.bool b)
 |int (k:IntKind) (n:Int):VR c (.int k n) (.int k n)
 |str (s:List UInt8):VR c (.string ⟨s.toArray⟩) (.str s)
 |agg (cs:List Value) (ds:List PD):cs.length=ds.length->(∀v∈cs,v.oneCell'=true) ->
   (∀(i:Nat) (v:Value) (d:PD),cs[i]?=some v->ds[i]?=some d->VR c v d)->VR c (.agg cs.toArray) (.agg ds)
 |slice (A:Option Addr) (n cap size:Nat) (xs:List PD) (tok:Tok) (fl:List Value) :
   n=xs.length->n<=cap->cap<=maxLen->(∀x∈xs,x.cells.length=size)->fl.length=n*size->(∀v∈fl,v.oneCell'=true) ->
   (∀(j:Nat) (v:Value),fl[j]?=some v->∃ad,A=some ad/\c.w.cell? (ad.add j)=some v/\c.av (ad.add j)) ->
   (∀(j:Nat) (v:Value) (d:PD),fl[j]?=some v->(xs.flatMap PD.cells)[j]?=some d->VR c v d) ->
   qB c size n cap (.slice A n cap) tok->VR c (.slice A n cap) (.slice size xs tok)
 |ptr (id off b:Nat):c.D id->(∃p,c.σ[id]?=some (.box p))->c.ρ id=.pointer (some ⟨b,0,none⟩)->VR c (.pointer (some ⟨b,off,none⟩)) (.ptr id off)
 |dE (id off n cap size b:Nat):c.D id->(∃p,c.σ[id]?=some (.box p))->c.ρ id=.pointer (some ⟨b,0,none⟩)->n<=cap->cap<=maxLen->VR c (.slice (some ⟨b,off,none⟩) n cap) (.dE id off n size)
 |aF (id ver off n cap size b:Nat):B0 c id ver (fun sz r=>sz=size/\∃C,r=.slice (some ⟨b,0,none⟩) 0 C/\off+cap*size=C*size)->n<=cap->cap<=maxLen ->
   VR c (.slice (some ⟨b,off,none⟩) n cap) (.aF id ver off n size)
 |dQ (id ver off b:Nat):B0 c id ver (fun _ r=>∃C,r=.slice (some ⟨b,0,none⟩) 0 C)->VR c (.pointer (some ⟨b,off,none⟩)) (.dQ id ver off)
 |fD (id b:Nat):c.D id->lU c.σ[id]?->c.ρ id=.map (some b)->VR c (.map (some b)) (.fD id)
 |iface (t:TypeId) (v:Value) (p:PD):VR c v p->VR c (.iface t v) (.iface t p)
 |eF (ad:Addr) (fl:List Value) (ds:List PD) (off:Nat):fl.length=ds.length->(∀v∈fl,v.oneCell'=true) ->
   (∀(j:Nat) (v:Value),fl[j]?=some v->c.w.cell? (ad.add j)=some v/\c.av (ad.add j)) ->
   (∀(j:Nat) (v:Value) (d:PD),fl[j]?=some v->ds[j]?=some d->VR c v d)->VR c (.pointer (some (ad.add off))) (.eF ds off)
 |eN:VR c (.pointer none) .eN
 |func (f:Nat) (cs:List Value) (ds:List PD):cs.length=ds.length ->
   (∀(i:Nat) (v:Value) (d:PD),cs[i]?=some v->ds[i]?=some d->VR c v d)->VR c (.func (.func f) #[] cs.toArray) (.func f ds)
 |dA (f:Nat) (cs:List Value) (ds:List PD):cs.length=ds.length ->
   (∀(i:Nat) (v:Value) (d:PD),cs[i]?=some v->ds[i]?=some d->VR c v d)->VR c (.func (.func f) cs.toArray #[]) (.dA f ds)
 |gU:VR c .nilFunc .gU
 |eV (v:Value):ML v=true->VR c v (.eV v)
 |yield (id l:Nat):c.D id->lU c.σ[id]?->c.ρ id=.pointer (some ⟨l,0,none⟩)->VR c (.func (.yield l) #[] #[]) (.yield id)
 |aH (cs:List Value) (ds:List PD):cs.length=ds.length ->
   (∀(i:Nat) (v:Value) (d:PD),cs[i]?=some v->ds[i]?=some d->VR c v d)->VR c (.tuple cs.toArray) (.aH ds)
def aQ(c:Cx)(cs:List Value)(ds:List PD):Prop:=cs.length=ds.length/\∀(i:Nat) (v:Value) (d:PD),cs[i]?=some v->ds[i]?=some d->VR c v d
def wS(g:Nat):Option (List PD):=match vO g with
 |some (k,xs)=>some (xs.map (PD.int k))
 |none=>none
def MM(c:Cx):Prop:=∀g ds,wS g=some ds->VR c (.pointer (some ⟨g,0,none⟩)) (.eF ds 0)
def XQ(g:Nat)(cs:Array Value):Prop:=(∀k zs,vO g=some (k,zs)->cs=(zs.map (Value.int k)).toArray)/\∀k,DS g=some k->∃m,cs=#[.int k m]
def XR(g:Nat):Bool:=(vO g).isSome||(DS g).isSome
def Gh(c:Cx):Prop:=∀g,XR g=true->(∃cs T fz,c.w.heap[g]?=some (.cells cs T fz)/\XQ g cs)/\∀id,c.D id->aV (c.ρ id)≠some g
def Gl(c:Cx):Prop:=MM c/\Gh c
structure Sr (c:Cx):Prop where
 box:∀id p,c.D id->c.σ[id]?=some (.box p)->∃b cs T,c.ρ id=.pointer (some ⟨b,0,none⟩)/\c.w.heap[b]?=some (.cells cs T (0,0)) /\
  aQ c cs.toList p.cells/\(∀v∈cs.toList,v.oneCell'=true)/\∀t ds,p=.typed t ds->T=t
 own:∀id e size n,c.D id->c.σ[id]?=some (.own e size n)->∃xs,c.w.ownsRowF 0 e size (c.ρ id) n xs
 row:∀id e size ver ds,c.D id->c.σ[id]?=some (.row e size ver ds)->∃b C cur,c.ρ id=.slice (some ⟨b,0,none⟩) 0 C/\c.w.heap[b]?=some (.cells cur e (0,0))/\cur.size=C*size/\C<=maxLen/\0<size /\
  ds.length<=cur.size/\aQ c (cur.toList.take ds.length) ds/\∀v∈cur.toList,v.oneCell'=true
 map:∀id es,c.D id->c.σ[id]?=some (.map es)->∃b ents clock,c.ρ id=.map (some b)/\c.w.heap[b]?=some (.map ents clock)/\aQ c (ents.toList.map MapEntry.key) (es.map Prod.fst)/\aQ c (ents.toList.map MapEntry.val) (es.map Prod.snd)
 mark:∀id,c.D id->c.σ[id]?=some .mark->∃b,c.ρ id=.pointer (some ⟨b,0,none⟩)/\c.w.heap[b]?=some (.deferred (some []))
 loop:∀id st fr ps assign body,c.D id->c.σ[id]?=some (.loop st fr ps assign body)->∃b r,c.ρ id=.pointer (some ⟨b,0,none⟩)/\c.w.heap[b]?=some (.loop r) /\
  r.params=ps.toArray/\r.assign=assign/\r.body=body/\aQ c r.tmps.toList fr/\st.fits r
 inj:∀id id' b,c.D id->c.D id'->id≠id'->aV (c.ρ id)=some b->aV (c.ρ id')≠some b
 lt:∀id b,c.D id->aV (c.ρ id)=some b->b<c.w.heap.size
 bF:∀id,c.D id->id<c.σ.length
 fresh:∀a:Addr,c.w.heap.size<=a.block->c.X a
 jZ:Gl c
structure Nx (fl:Nat) (c c':Cx):Prop where
 X:c'.X=c.X
 os:c'.w.os=c.w.os
 tape:c'.w.tape=c.w.tape
 output:c'.w.output=c.w.output
 size:c.w.heap.size<=c'.w.heap.size
 len:c.σ.length<=c'.σ.length
 cell:∀a v,c.av a->c.w.cell? a=some v->c'.av a/\c'.w.cell? a=some v
 bF:∀id,c.D id->c'.D id
 new:∀id,c'.D id->c.D id\/c.σ.length<=id
 qW:∀id p,c.D id->c.σ[id]?=some (.box p)->c'.ρ id=c.ρ id/\∃p',c'.σ[id]?=some (.box p')
 mE:∀id,c.D id->lU c.σ[id]?->c'.ρ id=c.ρ id/\lU c'.σ[id]?
 rU:∀id e s n,c.D id->c.σ[id]?=some (.own e s n)->∃n',c'.σ[id]?=some (.own e s n')/\n<=n'/\(n'=n->c'.ρ id=c.ρ id)
 rV:∀id e s v cs,c.D id->c'.σ[id]?=some (.row e s v cs)->∃v0 cs0,c.σ[id]?=some (.row e s v0 cs0)/\v0<=v/\(v0=v->c'.ρ id=c.ρ id)
 back:∀id b,c'.D id->aV (c'.ρ id)=some b->b<c.w.heap.size->c.D id/\aV (c.ρ id)=some b
 frame:∀k,k<c.w.heap.size->(∀id,c.D id->fl<=id->aV (c.ρ id)≠some k)->c'.w.heap[k]?=c.w.heap[k]?
 ro:∀id,id<fl->id<c.σ.length->c'.σ[id]?=c.σ[id]?
 hole:∀id,id<c.σ.length->¬c.D id->c'.σ[id]?=c.σ[id]?
theorem Nx.refl(fl:Nat)(c:Cx):Nx fl c c:=
 ⟨rfl,rfl,rfl,rfl,yAk _,yAk _,fun _ _ h h'=>⟨h,h'⟩,fun _ h=>h,fun _ h=>.inl h,fun _ p _ h=>⟨rfl,p,h⟩,fun _ _ h=>⟨rfl,h⟩,
  fun _ _ _ n _ h=>⟨n,h,yAk _,fun _=>rfl⟩,fun _ _ _ v cs _ h=>⟨v,cs,h,yAk _,fun _=>rfl⟩,fun _ _ h h' _=>⟨h,h'⟩,fun _ _ _=>rfl,fun _ _ _=>rfl,fun _ _ _=>rfl⟩
theorem Nx.trans{fl:Nat}{a b c:Cx}(h:Nx fl a b)(k:Nx fl b c):Nx fl a c where
 X:=k.X.trans h.X
 os:=k.os.trans h.os
 tape:=k.tape.trans h.tape
 output:=k.output.trans h.output
 size:=Nat.le_trans h.size k.size
 len:=Nat.le_trans h.len k.len
 cell:=fun x v h1 h2=>let ⟨q1,q2⟩:=h.cell x v h1 h2;k.cell x v q1 q2
 bF:=fun id hd=>k.bF id (h.bF id hd)
 new:=fun id hd=>(k.new id hd).elim (fun q=>h.new id q) (fun q=>.inr (Nat.le_trans h.len q))
 qW:=fun id p hd hs=>by
  obtain⟨e1,p',hs'⟩:=h.qW id p hd hs
  obtain⟨e2,p'',Q9⟩:=k.qW id p' (h.bF id hd) hs'
  exact⟨e2.trans e1,p'',Q9⟩
 mE:=fun id hd hn=>by
  obtain⟨e1,hn'⟩:=h.mE id hd hn
  obtain⟨e2,aHv⟩:=k.mE id (h.bF id hd) hn'
  exact⟨e2.trans e1,aHv⟩
 rU:=fun id e s n hd hs=>by
  obtain⟨n',hs',hle,he⟩:=h.rU id e s n hd hs
  obtain⟨n'',Q9,hle',he'⟩:=k.rU id e s n' (h.bF id hd) hs'
  exact⟨n'',Q9,Nat.le_trans hle hle',fun heq=>(he' (by omega)).trans (he (by omega))⟩
 rV:=fun id e s v cs hd hs=>by
  obtain⟨v1,EN,h1,h2,h3⟩:=k.rV id e s v cs (h.bF id hd) hs
  obtain⟨v2,xR,g1,g2,g3⟩:=h.rV id e s v1 EN hd h1
  exact⟨v2,xR,g1,Nat.le_trans g2 h2,fun heq=>(h3 (by omega)).trans (g3 (by omega))⟩
 back:=fun id bk hd hb hlt=>by
  obtain⟨q1,q2⟩:=k.back id bk hd hb (Nat.lt_of_lt_of_le hlt h.size)
  exact h.back id bk q1 q2 hlt
 frame:=fun n hn hx=>by
  rw[k.frame n (Nat.lt_of_lt_of_le hn h.size) (fun id hd hfl hb=>?_)]
  ·exact h.frame n hn hx
  ·obtain⟨q1,q2⟩:=h.back id n hd hb hn
   exact hx id q1 hfl q2
 ro:=fun id hlt hl=>(k.ro id hlt (Nat.lt_of_lt_of_le hl h.len)).trans (h.ro id hlt hl)
 hole:=fun id hl hd=>(k.hole id (Nat.lt_of_lt_of_le hl h.len) (fun hb=>(h.new id hb).elim hd (fun q=>by omega))).trans (h.hole id hl hd)
theorem Nx.weaken{fl dP:Nat}{a b:Cx}(h:Nx fl a b)(hle:dP<=fl):Nx dP a b:=
 { h with frame:=fun k hk hx=>h.frame k hk (fun id hd hf=>hx id hd (Nat.le_trans hle hf)),ro:=fun id hlt hl=>h.ro id (Nat.lt_of_lt_of_le hlt hle) hl }
structure Nv (c c':Cx):Prop where
 cell:∀a v,c.av a->c.w.cell? a=some v->c'.av a/\c'.w.cell? a=some v
 bF:∀id,c.D id->c'.D id
 qW:∀id p,c.D id->c.σ[id]?=some (.box p)->c'.ρ id=c.ρ id/\∃p',c'.σ[id]?=some (.box p')
 mE:∀id,c.D id->lU c.σ[id]?->c'.ρ id=c.ρ id/\lU c'.σ[id]?
 rU:∀id e s n,c.D id->c.σ[id]?=some (.own e s n)->∃n',c'.σ[id]?=some (.own e s n')/\n<=n'/\(n'=n->c'.ρ id=c.ρ id)
 rV:∀id e s v cs,c.D id->c'.σ[id]?=some (.row e s v cs)->∃v0 cs0,c.σ[id]?=some (.row e s v0 cs0)/\v0<=v/\(v0=v->c'.ρ id=c.ρ id)
theorem Nx.QN{fl:Nat}{c c':Cx}(h:Nx fl c c'):Nv c c':=⟨h.cell,h.bF,h.qW,h.mE,h.rU,h.rV⟩
theorem B0.mV{c c':Cx}(h:Nv c c'){id ver:Nat}{Q:Nat->Value->Prop}(hp:B0 c id ver Q):B0 c' id ver Q:=by
 refine⟨h.bF id hp.1,fun e sz v cs hs=>?_⟩
 obtain⟨v0,cs0,h1,h2,h3⟩:=h.rV id e sz v cs hp.1 hs
 obtain⟨h4,h5⟩:=hp.2 e sz v0 cs0 h1
 refine⟨Nat.le_trans h4 h2,fun heq=>?_⟩
 rw[h3 (by omega)]
 exact h5 (by omega)
theorem qB.mV{c c':Cx}(h:Nv c c'){size n cap:Nat}{v:Value}{t:Tok}(ht:qB c size n cap v t):qB c' size n cap v t:=by
 cases t with
 |any=>trivial
 |full=>exact ht
 |nil=>exact ht
 |pE=>exact ht
 |qY=>exact ht
 |own id=>
  obtain⟨hd,e,m,hs,hle,he⟩:=ht
  obtain⟨m',hs',hle',he'⟩:=h.rU id e size m hd hs
  exact⟨h.bF id hd,e,m',hs',Nat.le_trans hle hle',fun heq=>(he' (by omega)).trans (he (by omega))⟩
theorem VR.mV{c c':Cx}(h:Nv c c'){v:Value}{p:PD}(hv:VR c v p):VR c' v p:=by
 induction hv with
 |bool b=>exact .bool b
 |int k n=>exact .int k n
 |str s=>exact .str s
 |agg cs ds hl h1 _ ih=>exact .agg cs ds hl h1 ih
 |slice A n cap size xs tok dP hn hc hm hx hf h1 hcell _ ht ih=>
  refine .slice A n cap size xs tok dP hn hc hm hx hf h1 (fun j v hj=>?_) ih (ht.mV h)
  obtain⟨ad,e,h2,h3⟩:=hcell j v hj
  obtain⟨q1,q2⟩:=h.cell _ _ h3 h2
  exact⟨ad,e,q2,q1⟩
 |ptr id off b hd hs hr=>
  obtain⟨p,hs⟩:=hs
  obtain⟨e,p',hs'⟩:=h.qW id p hd hs
  exact .ptr id off b (h.bF id hd) ⟨p',hs'⟩ (e.trans hr)
 |dE id off n cap size b hd hs hr h1 h2=>
  obtain⟨p,hs⟩:=hs
  obtain⟨e,p',hs'⟩:=h.qW id p hd hs
  exact .dE id off n cap size b (h.bF id hd) ⟨p',hs'⟩ (e.trans hr) h1 h2
 |aF id ver off n cap size b hp h1 h2=>exact .aF id ver off n cap size b (hp.mV h) h1 h2
 |dQ id ver off b hp=>exact .dQ id ver off b (hp.mV h)
 |fD id b hd hn hr=>
  obtain⟨e,hn'⟩:=h.mE id hd hn
  exact .fD id b (h.bF id hd) hn' (e.trans hr)
 |iface t v p _ ih=>exact .iface t v p ih
 |eF ad dP ds off hl h1 hcell _ ih=>
  refine .eF ad dP ds off hl h1 (fun j v hj=>?_) ih
  obtain⟨h2,h3⟩:=hcell j v hj
  obtain⟨q1,q2⟩:=h.cell _ _ h3 h2
  exact⟨q2,q1⟩
 |eN=>exact .eN
 |func f cs ds hl _ ih=>exact .func f cs ds hl ih
 |dA f cs ds hl _ ih=>exact .dA f cs ds hl ih
 |gU=>exact .gU
 |eV v h=>exact .eV v h
 |yield id l hd hn hr=>
  obtain⟨e,hn'⟩:=h.mE id hd hn
  exact .yield id l (h.bF id hd) hn' (e.trans hr)
 |aH cs ds hl _ ih=>exact .aH cs ds hl ih
theorem qB.mono:True:=trivial
theorem VR.mono{fl:Nat}{c c':Cx}(h:Nx fl c c'){v:Value}{p:PD}(hv:VR c v p):VR c' v p:=hv.mV h.QN
theorem aQ.mV{c c':Cx}(h:Nv c c'){cs:List Value}{ds:List PD}(hv:aQ c cs ds):aQ c' cs ds:=
 ⟨hv.1,fun i v d h1 h2=>(hv.2 i v d h1 h2).mV h⟩
theorem MM.mV{c c':Cx}(h:Nv c c')(hg:MM c):MM c':=fun g ds e=>(hg g ds e).mV h
theorem Gl.mono{fl:Nat}{c c':Cx}(h:Nx fl c c')(hg:Gl c):Gl c':=by
 refine⟨hg.1.mV h.QN,fun g hh=>?_⟩
 obtain⟨⟨cs,T,fz,e1,e2⟩,e3⟩:=hg.2 g hh
 have hlt:g<c.w.heap.size:=(Array.getElem?_eq_some_iff.1 e1).1
 refine⟨⟨cs,T,fz,?_,e2⟩,fun id hd hb=>?_⟩
 ·rw[h.frame g hlt (fun id hd _=>e3 id hd)]
  exact e1
 ·obtain⟨q1,q2⟩:=h.back id g hd hb hlt
  exact e3 id q1 q2
theorem aQ.mono{fl:Nat}{c c':Cx}(h:Nx fl c c'){cs:List Value}{ds:List PD}(hv:aQ c cs ds):aQ c' cs ds:=
 ⟨hv.1,fun i v d h1 h2=>(hv.2 i v d h1 h2).mono h⟩
mutual
def PD.strip:PD->PD
 |.agg cs=>.agg (PD.j7 cs)
 |.typed t cs=>.typed t (PD.j7 cs)
 |.slice _ [] _=>.slice 0 [] .any
 |.slice n (x::xs) _=>.slice n (x.strip::PD.j7 xs) .any
 |.aH vs=>.aH (PD.j7 vs)
 |p=>p
def PD.j7:List PD->List PD
 | []=>[]
 |x::xs=>x.strip::PD.j7 xs
end
mutual
def PD.aY:PD->Bool
 |.agg cs=>PD.eM cs
 |.typed _ cs=>PD.eM cs
 |.slice _ xs tok=>PD.eM xs&&(match tok with|.own _=>false|_=>true)
 |.aH vs=>PD.eM vs
 |.eF cs _=>PD.eM cs
 |.func _ cap=>PD.eM cap
 |.dA _ cap=>PD.eM cap
 |.ptr _ _=>false
 |.dE _ _ _ _=>false
 |.aF _ _ _ _ _=>false
 |.dQ _ _ _=>false
 |.fD _=>false
 |.iface _ p=>p.aY
 |.yield _=>false
 |_=>true
def PD.eM:List PD->Bool
 | []=>true
 |x::xs=>x.aY&&PD.eM xs
end
theorem PD.xF:∀xs:List PD,PD.j7 xs=xs.map PD.strip
 | []=>by simp[PD.j7]
 |x::xs=>by simp[PD.j7,PD.xF xs]
theorem PD.p7:∀xs:List PD,PD.eM xs=xs.all PD.aY
 | []=>by simp[PD.eM]
 |x::xs=>by simp[PD.eM,PD.p7 xs]
theorem PD.aAD(p:PD):p.strip.cells=p.cells.map PD.strip:=by
 cases p with
 |slice n xs tok=>cases xs<;>simp[PD.strip,PD.cells]
 |_=>simp[PD.strip,PD.cells,PD.xF]
theorem PD.lG(n:Nat)(xs:List PD)(tok:Tok):PD.strip (.slice n xs tok)=.slice (if xs.length=0 then 0 else n) (xs.map PD.strip) .any:=by
 cases xs<;>simp[PD.strip,PD.xF]
theorem VR.strip{c:Cx}{v:Value}{p:PD}(hv:VR c v p):VR c v p.strip:=by
 induction hv with
 |bool b=>simp only[PD.strip];exact .bool b
 |int k n=>simp only[PD.strip];exact .int k n
 |str s=>simp only[PD.strip];exact .str s
 |agg cs ds hl h1 _ ih=>
  simp only[PD.strip,PD.xF]
  refine .agg cs _ (by simpa using hl) h1 (fun i v d hv hd=>?_)
  rw[yAo]at hd
  cases hx:ds[i]? with
  |none=>rw[hx]at hd;simp at hd
  |some x=>
   rw[hx]at hd;simp only[yBc,yAb]at hd;subst hd
   exact ih i v x hv hx
 |slice A n cap size xs tok fl hn hc hm hx hf h1 hcell _ ht ih=>
  rw[PD.lG]
  refine .slice A n cap _ _ .any fl (by simpa using hn) hc hm ?_ ?_ h1 hcell (fun j v d hv hd=>?_) trivial
  ·intro x hxm
   obtain⟨y,hy,rfl⟩:=yAw.1 hxm
   rw[PD.aAD,yAe,hx y hy]
   have:xs.length≠0:=fun e=>by rw[yAf e]at hy;cases hy
   rw[if_neg this]
  ·rw[hf,hn]
   split
   ·rename_i h0;rw[h0];simp
   ·rfl
  ·rw[List.flatMap_map]at hd
   have e:(xs.flatMap fun a=>(PD.strip a).cells)=(xs.flatMap PD.cells).map PD.strip:=by
    rw[List.map_flatMap]
    exact congrArg (fun f=>xs.flatMap f) (funext PD.aAD)
   rw[e,yAo]at hd
   cases hx:(xs.flatMap PD.cells)[j]? with
   |none=>rw[hx]at hd;simp at hd
   |some x=>
    rw[hx]at hd;simp only[yBc,yAb]at hd;subst hd
    exact ih j v x hv hx
 |ptr id off b hd hs hr=>simp only[PD.strip];exact .ptr id off b hd hs hr
 |dE id off n cap size b hd hs hr h1 h2=>simp only[PD.strip];exact .dE id off n cap size b hd hs hr h1 h2
 |aF id ver off n cap size b hp h1 h2=>simp only[PD.strip];exact .aF id ver off n cap size b hp h1 h2
 |dQ id ver off b hp=>simp only[PD.strip];exact .dQ id ver off b hp
 |fD id b hd hn hr=>simp only[PD.strip];exact .fD id b hd hn hr
 |iface t v p h _=>simp only[PD.strip];exact .iface t v p h
 |eF ad fl ds off hl h1 hcell h2 _=>simp only[PD.strip];exact .eF ad fl ds off hl h1 hcell h2
 |eN=>simp only[PD.strip];exact .eN
 |func f cs ds hl h _=>simp only[PD.strip];exact .func f cs ds hl h
 |dA f cs ds hl h _=>simp only[PD.strip];exact .dA f cs ds hl h
 |gU=>simp only[PD.strip];exact .gU
 |eV v h=>simp only[PD.strip];exact .eV v h
 |yield id l hd hn hr=>simp only[PD.strip];exact .yield id l hd hn hr
 |aH cs ds hl _ ih=>
  simp only[PD.strip,PD.xF]
  refine .aH cs _ (by simpa using hl) (fun i v d hv hd=>?_)
  rw[yAo]at hd
  cases hx:ds[i]? with
  |none=>rw[hx]at hd;simp at hd
  |some x=>
   rw[hx]at hd;simp only[yBc,yAb]at hd;subst hd
   exact ih i v x hv hx
theorem VR.free{c c':Cx}(hcell:∀a v,c.av a->c.w.cell? a=some v->c'.av a/\c'.w.cell? a=some v){v:Value}{p:PD}(hv:VR c v p):p.aY=true->VR c' v p:=by
 have at_:∀ {ds:List PD} {i:Nat} {d:PD},PD.eM ds=true->ds[i]?=some d->d.aY=true:=by
  intro ds i d h hd
  rw[PD.p7]at h
  exact yAn.1 h d (yBe hd)
 induction hv with
 |bool b=>intro _;exact .bool b
 |int k n=>intro _;exact .int k n
 |str s=>intro _;exact .str s
 |agg cs ds hl h1 _ ih=>
  intro hp
  simp only[PD.aY]at hp
  exact .agg cs ds hl h1 (fun i v d hv hd=>ih i v d hv hd (at_ hp hd))
 |slice A n cap size xs tok dP hn hc hm hx hf h1 hcl _ ht ih=>
  intro hp
  simp only[PD.aY,yAr]at hp
  refine .slice A n cap size xs tok dP hn hc hm hx hf h1 (fun j v hj=>?_) (fun j v d hv hd=>ih j v d hv hd ?_) ?_
  ·obtain⟨ad,e,h2,h3⟩:=hcl j v hj
   obtain⟨q1,q2⟩:=hcell _ _ h3 h2
   exact⟨ad,e,q2,q1⟩
  ·obtain⟨x,hxm,hdm⟩:=List.mem_flatMap.1 (yBe hd)
   have hxf:x.aY=true:=by
    have:=hp.1
    rw[PD.p7]at this
    exact yAn.1 this x hxm
   cases x with
   |agg cs=>
    simp only[PD.cells]at hdm
    simp only[PD.aY,PD.p7]at hxf
    exact yAn.1 hxf d hdm
   |typed t cs=>
    simp only[PD.cells]at hdm
    simp only[PD.aY,PD.p7]at hxf
    exact yAn.1 hxf d hdm
   |_=>simp only[PD.cells,List.mem_singleton]at hdm;rw[hdm];exact hxf
  ·cases tok with
   |any=>trivial
   |full=>exact ht
   |nil=>exact ht
   |pE=>exact ht
   |qY=>exact ht
   |own id=>simp at hp
 |ptr id off b hd hs hr=>intro hp;simp[PD.aY]at hp
 |dE id off n cap size b hd hs hr h1 h2=>intro hp;simp[PD.aY]at hp
 |aF id ver off n cap size b hp h1 h2=>intro hp;simp[PD.aY]at hp
 |dQ id ver off b hp=>intro hp;simp[PD.aY]at hp
 |fD id b hd hn hr=>intro hp;simp[PD.aY]at hp
 |iface t v p _ ih=>intro hp;simp only[PD.aY]at hp;exact .iface t v p (ih hp)
 |eF ad dP ds off hl h1 hcl _ ih=>
  intro hp
  simp only[PD.aY]at hp
  refine .eF ad dP ds off hl h1 (fun j v hj=>?_) (fun j v d hv hd=>ih j v d hv hd (at_ hp hd))
  obtain⟨h2,h3⟩:=hcl j v hj
  obtain⟨q1,q2⟩:=hcell _ _ h3 h2
  exact⟨q2,q1⟩
 |eN=>intro _;exact .eN
 |func f cs ds hl _ ih=>
  intro hp
  simp only[PD.aY]at hp
  exact .func f cs ds hl (fun i v d hv hd=>ih i v d hv hd (at_ hp hd))
 |dA f cs ds hl _ ih=>
  intro hp
  simp only[PD.aY]at hp
  exact .dA f cs ds hl (fun i v d hv hd=>ih i v d hv hd (at_ hp hd))
 |gU=>intro _;exact .gU
 |eV v h=>intro _;exact .eV v h
 |yield id l hd hn hr=>intro hp;simp[PD.aY]at hp
 |aH cs ds hl _ ih=>
  intro hp
  simp only[PD.aY]at hp
  exact .aH cs ds hl (fun i v d hv hd=>ih i v d hv hd (at_ hp hd))
theorem aQ.strip{c:Cx}{cs:List Value}{ds:List PD}(hv:aQ c cs ds):aQ c cs (ds.map PD.strip):=
 ⟨by simpa using hv.1,fun i v d h1 h2=>by
  rw[yAo]at h2
  cases hx:ds[i]? with
  |none=>rw[hx]at h2;simp at h2
  |some x=>
   rw[hx]at h2;simp only[yBc,yAb]at h2;subst h2
   exact(hv.2 i v x h1 hx).strip⟩
theorem aQ.free{c c':Cx}(hcell:∀a v,c.av a->c.w.cell? a=some v->c'.av a/\c'.w.cell? a=some v){cs:List Value}{ds:List PD}(hv:aQ c cs ds)(h:PD.eM ds=true):aQ c' cs ds:=
 ⟨hv.1,fun i v d h1 h2=>(hv.2 i v d h1 h2).free hcell (by
  rw[PD.p7]at h
  exact yAn.1 h d (yBe h2))⟩
end
def PD.plain:PD->Bool
 |.agg _|.aH _|.typed _ _=>false
 |_=>true
def tG:Value->Option PD
 |.bool b=>some (.bool b)
 |.int k n=>some (.int k n)
 |.string s=>some (.str s.data.toList)
 |.slice none 0 0=>some (.slice 0 [] .full)
 |.pointer none=>some .eN
 |.nilFunc=>some .gU
 |.nilIface=>some (.eV .nilIface)
 |.map none=>some (.eV (.map none))
 |_=>none
def tH:List Value->Option (List PD)
 | []=>some []
 |v::vs=>match tG v,tH vs with
  |some p,some ps=>some (p::ps)
  |_,_=>none
def ofValue:Value->Option PD
 |.agg cs=>match tH cs.toList with|some ps=>some (.agg ps)|none=>none
 |.tuple vs=>if vs.size=0 then some (.aH [])else none
 |v=>tG v
def eE(P:Program)(t:TypeId):Option PD:=
 match P.info? t with
 |some i=>match i.zero with|some z=>ofValue z|none=>none
 |none=>none
def bT(P:Program)(t:TypeId):Option Nat:=match P.info? t with|some i=>some i.size|none=>none
def fN(P:Program)(t:TypeId):Option Bool:=
 match P.underlying t with
 |some (.struct _)|some (.array _ _)=>some true
 |some _=>some false
 |none=>none
def bB(fr:List PD):Operand->Option PD
 |.tmp t=>some (fr.getD t (.aH []))
 |.const v=>ofValue v
 |.func f=>some (.func f [])
 |.global g=>match wS g with
   |some ds=>some (.eF ds 0)
   |none=>none
def gW(fr:List PD):List Operand->Option (List PD)
 | []=>some []
 |x::xs=>match bB fr x,gW fr xs with
  |some p,some ps=>some (p::ps)
  |_,_=>none
def nQ(P:Program)(t:TypeId)(cs:List PD)(off:Nat):Option PD:=
 match fN P t,bT P t with
 |some true,some n=>if off+n<=cs.length then some (.agg ((cs.drop off).take n))else none
 |some false,some _=>cs[off]?
 |_,_=>none
def wA(op:BinOp)(k:IntKind)(x y:Int):Option Int:=
 match op with
 |.and=>some (k.wrap ((BitVec.ofInt k.bits x) &&& (BitVec.ofInt k.bits y)).toNat)
 |.or=>some (k.wrap ((BitVec.ofInt k.bits x) ||| (BitVec.ofInt k.bits y)).toNat)
 |.xor=>some (k.wrap ((BitVec.ofInt k.bits x) ^^^ (BitVec.ofInt k.bits y)).toNat)
 |.andNot=>some (k.wrap ((BitVec.ofInt k.bits x) &&& ~~~(BitVec.ofInt k.bits y)).toNat)
 |_=>none
def gY(op:BinOp)(k:IntKind)(x y:Int):Option PD:=
 match op with
 |.add=>some (.int k (k.wrap (x+y)))
 |.sub=>some (.int k (k.wrap (x-y)))
 |.mul=>some (.int k (k.wrap (x*y)))
 |.quo=>if y=0 then none else some (.int k (k.wrap (x.tdiv y)))
 |.rem=>if y=0 then none else some (.int k (x.tmod y))
 |.eql=>some (.bool (x==y))
 |.neq=>some (.bool (x != y))
 |.lss=>some (.bool (decide (x<y)))
 |.leq=>some (.bool (decide (x<=y)))
 |.gtr=>some (.bool (decide (x > y)))
 |.geq=>some (.bool (decide (x >= y)))
 |.and|.or|.xor|.andNot=>match wA op k x y with|some z=>some (.int k z)|none=>none
 |_=>none
def BK(op:BinOp)(k:IntKind)(x y:Int):Option PD:=
 if y<0 then none else
 match op with
 |.shl=>some (.int k (k.wrap (x*2^(min y.toNat k.bits))))
 |.shr=>some (.int k (x.fdiv (2^(min y.toNat k.bits))))
 |_=>none
def HH(op:BinOp)(x y:List UInt8):Option PD:=
 match op with
 |.add=>if x.length+y.length<=maxLen then some (.str (x++y))else none
 |.eql=>some (.bool (x==y))
 |.neq=>some (.bool (!(x==y)))
 |.lss=>some (.bool (Op.bytesLess x y))
 |.leq=>some (.bool (Op.bytesLess x y||x==y))
 |.gtr=>some (.bool (!(Op.bytesLess x y||x==y)))
 |.geq=>some (.bool (!(Op.bytesLess x y)))
 |_=>none
def xB(eq:TypeId->PD->PD->Option Bool)(P:Program)(xs ys:List PD):List Field->Option Bool
 | []=>some true
 |f::fs=>
  if f.name= "_" then xB eq P xs ys fs
  else match nQ P f.type xs f.offset,nQ P f.type ys f.offset with
   |some a,some b=>match eq f.type a b with
    |some true=>xB eq P xs ys fs
    |some false=>some false
    |none=>none
   |_,_=>none
def yO(eq:PD->PD->Option Bool)(P:Program)(e:TypeId)(n:Nat)(xs ys:List PD):Nat->Nat->Option Bool
 |_,0=>some true
 |i,m+1=>match nQ P e xs (i*n),nQ P e ys (i*n)with
  |some a,some b=>match eq a b with
   |some true=>yO eq P e n xs ys (i+1) m
   |some false=>some false
   |none=>none
  |_,_=>none
def lS(P:Program):Nat->TypeId->PD->PD->Option Bool
 |0,_,_,_=>none
 |d+1,t,x,y=>
  match P.underlying t with
  |some .bool=>match x,y with|.bool a,.bool b=>some (a==b)|_,_=>none
  |some (.int _)=>match x,y with|.int k a,.int k' b=>if k=k' then some (a==b)else none|_,_=>none
  |some .string=>match x,y with|.str a,.str b=>some (a==b)|_,_=>none
  |some (.pointer _)=>match x,y with
   |.eN,.eN=>some true
   |.eN,.ptr _ _=>some false
   |.eN,.eF _ _=>some false
   |.ptr _ _,.eN=>some false
   |.eF _ _,.eN=>some false
   |_,_=>none
  |some (.func ..)=>match x,y with
   |.gU,.gU=>some true
   |.gU,.func _ _=>some false
   |.func _ _,.gU=>some false
   |_,_=>none
  |some (.struct fs)=>match x,y with
   |.agg xs,.agg ys=>if P.stoodInHeld t then none else xB (lS P d) P xs ys fs.toList
   |_,_=>none
  |some (.array len e)=>match x,y with
   |.agg xs,.agg ys=>match bT P e with
     |some n=>yO (lS P d e) P e n xs ys 0 len
     |none=>none
   |_,_=>none
  |_=>none
def o3(P:Program)(t:TypeId)(x y:PD):Option Bool:=
 match x,y with
 |.agg _,.agg _=>if P.eqGuardType P.depth t then none else lS P 12 t x y
 |_,_=>lS P 12 t x y
def eA(P:Program)(op:BinOp)(t:TypeId)(x y:PD):Option PD:=
 match x,y with
 |.int k a,.int k' b=>
   match op with
   |.shl|.shr=>BK op k a b
   |_=>if k=k' then gY op k a b else none
 |.str a,.str b=>HH op a b
 |_,_=>
  match op with
  |.eql=>match o3 P t x y with|some b=>some (.bool b)|none=>none
  |.neq=>match o3 P t x y with|some b=>some (.bool (!b))|none=>none
  |_=>none
def D7(op:UnOp)(x:PD):Option PD:=
 match op,x with
 |.neg,.int k n=>some (.int k (k.wrap (0-n)))
 |.xor,.int k n=>match wA .xor k (if k.signed then -1 else k.max) n with|some z=>some (.int k z)|none=>none
 |.not,.bool b=>some (.bool (!b))
 |_,_=>none
def HE(P:Program)(src dst:TypeId)(x:PD):Option PD:=
 match P.underlying src,P.underlying dst,x with
 |some (.int _),some (.int k),.int _ n=>some (.int k (k.wrap n))
 |some .string,some .string,.str s=>some (.str s)
 |_,_,_=>none
def iQ:Option PD->Option Nat
 |some (.int _ i)=>if 0<=i then some i.toNat else none
 |_=>none
def lF(n:Nat)(lo hi:Option (Option PD)):Option (Nat×Nat):=
 match (match hi with|some h=>iQ h|none=>some n),(match lo with|some l=>iQ l|none=>some 0)with
 |some h,some l=>if l<=h/\h<=n then some (l,h)else none
 |_,_=>none
def pZ(P:Program)(t:TypeId)(x:PD)(lo hi mx:Option (Option PD)):Option PD:=
 match P.underlying t,x with
 |some .string,.str s=>
  if mx.isSome then none else
  match lF s.length lo hi with
  |some (l,h)=>some (.str ((s.drop l).take (h-l)))
  |none=>none
 |some (.slice e),.slice size xs tok=>
  match bT P e,lF xs.length lo hi with
  |some n,some (l,h)=>
   if xs.length=0\/n=size then
    match mx with
    |none=>some (.slice size ((xs.drop l).take (h-l))
      (if h=xs.length then(match tok with|.full=>.full|.own id=>if l=0 then .own id else .any|_=>.any)else .any))
    |some m=>match hi,iQ m with
     |some _,some m=>if h<=m/\m<=xs.length then some (.slice size ((xs.drop l).take (h-l)) (if m=h then .full else .any))else none
     |_,_=>none
   else none
  |_,_=>none
 |some (.slice e),.dE id off m size=>
  match bT P e,lF m lo hi,mx with
  |some n,some (l,h),none=>if n=size/\(l=0\/l<m)then some (.dE id (off+l*n) (h-l) n)else none
  |_,_,_=>none
 |some (.slice e),.aF id ver off m size=>
  match bT P e,lF m lo hi with
  |some n,some (l,h)=>
   if n=size then
    match mx with
    |none=>if l=0\/l<m then some (.aF id ver (off+l*n) (h-l) n)else some (.slice n [] .any)
    |some mv=>match hi,iQ mv with
     |some _,some k=>if k=h/\l=h then some (.slice n [] .full)else none
     |_,_=>none
   else none
  |_,_=>none
 |some (.array len e),.ptr id off=>
  match bT P e,lF len lo hi,mx with
  |some n,some (l,h),none=>if len<=1000000/\(l=0\/l<len)then some (.dE id (off+l*n) (h-l) n)else none
  |_,_,_=>none
 |_,_=>none
def D8(P:Program)(s:TypeId)(x:PD)(f:Nat):Option PD:=
 match P.underlying s with
 |some (.struct fs)=>match fs[f]? with
  |some fd=>match bT P fd.type with
   |some n=>if n=0 then none else match x with
    |.ptr id off=>some (.ptr id (off+fd.offset))
    |.eF cs off=>some (.eF cs (off+fd.offset))
    |.dQ id ver off=>some (.dQ id ver (off+fd.offset))
    |_=>none
   |none=>none
  |none=>none
 |_=>none
def LK(P:Program)(t:TypeId)(x:PD)(f:Nat):Option PD:=
 match P.underlying t,x with
 |some (.struct fs),.agg cs=>match fs[f]? with
  |some fd=>nQ P fd.type cs fd.offset
  |none=>none
 |_,_=>none
def lT(P:Program)(t:TypeId)(x:PD)(i:PD):Option PD:=
 match iQ (some i),P.underlying t with
 |some i,some (.array len e)=>match bT P e with
  |some n=>if i<len then(match x with
    |.ptr id off=>some (.ptr id (off+i*n))
    |.eF cs off=>some (.eF cs (off+i*n))
    |.dQ id ver off=>some (.dQ id ver (off+i*n))
    |_=>none)else none
  |none=>none
 |some i,some (.slice e)=>match x,bT P e with
  |.slice size xs _,some n=>if (xs.length=0\/n=size)/\0<n then(match xs[i]? with
    |some p=>some (.eF p.cells 0)
    |none=>none)else none
  |.dE id off m size,some n=>if n=size/\i<m then some (.ptr id (off+i*n))else none
  |.aF id ver off m size,some n=>if n=size/\i<m then some (.dQ id ver (off+i*n))else none
  |_,_=>none
 |_,_=>none
def BD(P:Program)(t:TypeId)(x:PD)(i:PD):Option PD:=
 match iQ (some i),P.underlying t,x with
 |some i,some (.array len e),.agg cs=>match bT P e with
  |some n=>if i<len then nQ P e cs (i*n)else none
  |none=>none
 |some i,some .string,.str s=>match s[i]? with|some b=>some (.int .u8 b.toNat)|none=>none
 |_,_,_=>none
def EC(P:Program):List Field->Option (List (Nat×Nat))
 | []=>some []
 |f::fs=>match bT P f.type,EC P fs with
  |some n,some ps=>some ((f.offset,n)::ps)
  |_,_=>none
def cX(cs:List PD)(off:Nat)(new:List PD):List PD:=cs.take off++new++cs.drop (off+new.length)
def v8(place:Nat->Option (Nat×Nat))(cs:List PD):List (Nat×PD)->Option (List PD)
 | []=>some cs
 |(i,p)::rest=>match place i with
  |none=>none
  |some (off,n)=>if p.cells.length≠n\/off+p.cells.length > cs.length\/p.cells.all PD.plain=false then none else v8 place (cX cs off p.cells) rest
def o5(fr:List PD):List (Nat×Operand)->Option (List (Nat×PD))
 | []=>some []
 |(i,x)::r=>match bB fr x,o5 fr r with
  |some p,some ps=>some ((i,p)::ps)
  |_,_=>none
def D9(P:Program)(t:TypeId)(parts:List (Nat×PD)):Option PD:=
 match eE P t with
 |some (.agg z)=>match P.underlying t with
  |some (.struct fs)=>match EC P fs.toList with
   |some pl=>match v8 (pl[·]?) z parts with|some cs=>some (.agg cs)|none=>none
   |none=>none
  |some (.array _ e)=>match bT P e with
   |some n=>match v8 (fun i=>some (i*n,n)) z parts with|some cs=>some (.agg cs)|none=>none
   |none=>none
  |_=>none
 |_=>none
def BJ(lt:Bool):PD->List PD->Option PD
 |.int k x,[]=>some (.int k x)
 |.int k x,.int _ y::r=>BJ lt (.int k (if lt then(if y<x then y else x)else(if y > x then y else x))) r
 |_,_=>none
def uJ(P:Program)(b:Builtin)(argTypes:Array TypeId)(args:List PD):Option PD:=
 match b with
 |.len=>match argTypes[0]? with
   |some t=>match P.underlying t,args with
    |some .string,.str s::_=>some (.int .i64 s.length)
    |some (.array n _),_::_=>some (.int .i64 n)
    |some (.slice _),.slice _ xs _::_=>some (.int .i64 xs.length)
    |some (.slice _),.dE _ _ n _::_=>some (.int .i64 n)
    |some (.slice _),.aF _ _ _ n _::_=>some (.int .i64 n)
    |_,_=>none
   |none=>none
 |.min=>match args with|x::r=>BJ true x r | []=>none
 |.max=>match args with|x::r=>BJ false x r | []=>none
 |.cap=>match argTypes[0]? with
   |some t=>match P.underlying t,args with
    |some (.slice _),.slice _ xs .full::_=>some (.int .i64 xs.length)
    |_,_=>none
   |none=>none
 |_=>none
def qQ:PD->Option Bool
 |.slice n xs tok=>if xs.length≠0/\n≠0 then some false else(match tok with
   |.nil=>some true
   |.pE=>some true
   |.qY=>some false
   |_=>none)
 |.dE _ _ _ _=>some false
 |.aF _ _ _ _ _=>some false
 |_=>none
def yP(P:Program)(op:BinOp)(t:TypeId)(a:PD)(y:Operand):Option PD:=
 match y with
 |.const (.slice none 0 0)=>(match P.underlying t with
   |some (.slice _)=>(match op,qQ a with
    |.eql,some b=>some (.bool b)
    |.neq,some b=>some (.bool (!b))
    |_,_=>none)
   |_=>none)
 |_=>none
def eP(P:Program)(fr:List PD):Op->Option PD
 |.move x|.assign x=>bB fr x
 |.pick c a b=>match bB fr c with
   |some (.bool true)=>bB fr a
   |some (.bool false)=>bB fr b
   |_=>none
 |.binOp op t x y _=>match bB fr x,bB fr y with
   |some a,some b=>(match eA P op t a b with|some r=>some r|none=>yP P op t a y)
   |_,_=>none
 |.unOp op _ x=>match bB fr x with|some a=>D7 op a|none=>none
 |.convert s d x=>if BF s d=true then none else match bB fr x with|some a=>HE P s d a|none=>none
 |.makeFunc (.func f) first captured=>if first.size=0 then(match gW fr captured.toList with|some ps=>some (.func f ps)|none=>none)
   else if captured.size=0 then(match gW fr first.toList with|some ps=>some (.dA f ps)|none=>none)else none
 |.slice t x lo hi mx=>match bB fr x with
   |some a=>pZ P t a (lo.map (bB fr)) (hi.map (bB fr)) (mx.map (bB fr))
   |none=>none
 |.fieldAddr s x f=>match bB fr x with|some a=>D8 P s a f|none=>none
 |.field t x f=>match bB fr x with|some a=>LK P t a f|none=>none
 |.indexAddr t x i=>match bB fr x,bB fr i with
   |some a,some b=>lT P t a b
   |_,_=>none
 |.index t x i=>match bB fr x,bB fr i with
   |some a,some b=>BD P t a b
   |_,_=>none
 |.extract x i=>match bB fr x with
   |some (.aH vs)=>vs[i]?
   |_=>none
 |.nilCheck x=>match bB fr x with
   |some (.ptr id off)=>some (.ptr id off)
   |some (.eF cs off)=>some (.eF cs off)
   |some (.dQ id ver off)=>some (.dQ id ver off)
   |_=>none
 |.build t parts=>match o5 fr parts.toList with|some ps=>D9 P t ps|none=>none
 |.call { callee:=.builtin b,args:=args,argTypes:=ts }=>match gW fr args.toList with
   |some ps=>uJ P b ts ps
   |none=>none
 |_=>none
def o4(P:Program)(σ:List aB)(t:TypeId):PD->Option PD
 |.ptr id off=>match σ[id]? with
   |some (.box p)=>nQ P t p.cells off
   |_=>none
 |.eF cs off=>nQ P t cs off
 |.dQ id ver off=>match σ[id]? with
   |some (.row _ _ eR cs)=>if ver=eR then nQ P t cs off else none
   |_=>none
 |_=>none
def uK:PD->PD
 |.slice 0 [] .full=>.slice 0 [] .nil
 |p=>p
def boxed(t:TypeId):PD->PD
 |.agg cs=>if LL t=true then .typed t (cs.map uK)else .agg cs
 |p=>p
def PD.setCells(p:PD)(off:Nat)(new:List PD):Option PD:=
 match p with
 |.agg cs=>if off+new.length<=cs.length then some (.agg (cX cs off new))else none
 |.typed t cs=>if off+new.length<=cs.length then some (.typed t (cX cs off new))else none
 |_=>if off=0 then(match new with | [q]=>some q|_=>none)else none
def mC(P:Program)(fl:Nat)(σ:List aB)(t:TypeId)(a p:PD):Option (List aB):=
 match a with
 |.ptr id off=>if fl<=id then(match σ[id]?,bT P t with
   |some (.box q),some n=>if p.cells.length=n/\p.cells.all PD.plain=true then(match q.setCells off p.cells with
     |some q'=>some (σ.set id (.box q'))
     |none=>none)else none
   |_,_=>none)else none
 |.dQ id ver off=>if fl<=id then(match σ[id]?,bT P t with
   |some (.row e sz eR cs),some n=>if ver=eR/\p.cells.length=n/\p.cells.all PD.plain=true/\off+n<=cs.length then some (σ.set id (.row e sz ver (cX cs off p.cells)))else none
   |_,_=>none)else none
 |_=>none
def EB(i:Nat):List (Nat×PD)->Option (List PD)
 | []=>some []
 |(j,p)::r=>if j=i then(match EB (i+1) r with|some ps=>some (p::ps)|none=>none)else none
def gG(P:Program)(t:TypeId)(len:Nat)(parts:List (Nat×PD)):Option PD:=
 match P.underlying t with
 |some (.slice e)=>match bT P e,eE P e,EB 0 parts with
  |some n,some z,some ps=>
   if ps.length=len/\0<n/\len*n<=16777216/\ps.all (fun p=>p.cells.length=n&&p.cells.all PD.plain)=true/\z.cells.length=n/\z.cells.all PD.plain=true then some (.slice n ps .full)else none
  |_,_,_=>none
 |_=>none
def p6(P:Program)(t:TypeId):Bool:=
 match P.underlying t with
 |some (.slice e)=>match P.info? e with
  |some i=>match i.zero with
   |some (.int .u8 0)=>i.size==1&&i.bytes==1
   |_=>false
  |none=>false
 |_=>false
def fZ(P:Program)(fl:Nat)(σ:List aB)(t:TypeId)(s x:PD):Option (PD×List aB):=
 match P.underlying t with
 |some (.slice e)=>match P.info? e with
  |some i=>match i.zero,s,x with
   |some z,.slice sz xs tok,.slice sz' ys _=>
    if (xs.length=0\/sz=i.size)/\(ys.length=0\/sz'=i.size)/\0<i.size/\z.cells.size=i.size/\xs.length+ys.length<=maxLen /\
        (xs.length+ys.length)*i.bytes<=140737488355328 then
     if ys.length=0 then some (s,σ)else
     match tok with
     |.full=>some (.slice i.size (xs++ys) (.own σ.length),σ++[.own e i.size (xs.length+ys.length)])
     |.nil=>some (.slice i.size (xs++ys) (.own σ.length),σ++[.own e i.size (xs.length+ys.length)])
     |.own id=>if fl<=id/\sz=i.size then(match σ[id]? with
       |some (.own e' j8 n)=>if e'=e/\j8=i.size/\n=xs.length then
         some (.slice i.size (xs++ys) (.own id),σ.set id (.own e i.size (xs.length+ys.length)))else none
       |_=>none)else none
     |_=>none
    else none
   |_,_,_=>none
  |none=>none
 |_=>none
def qC(z:PD)(n l:Nat):List PD:=(List.range (l*n)).map fun k=>z.cells.getD (k%n) (.aH [])
def mX(n:Nat):Nat->List PD->List PD
 |0,_=>[]
 |k+1,cs=>.agg (cs.take n)::mX n k (cs.drop n)
def mY(σ:List aB):PD->Option (Nat×List PD)
 |.slice sz ys _=>some (sz,ys)
 |.aF id ver off n sz=>match σ[id]? with
   |some (.row _ sz' eR cs)=>if ver=eR/\sz'=sz/\off+n*sz<=cs.length then some (sz,mX sz n (cs.drop off))else none
   |_=>none
 |.dE id off n sz=>match σ[id]? with
   |some (.box q)=>if off+n*sz<=q.cells.length then some (sz,mX sz n (q.cells.drop off))else none
   |_=>none
 |_=>none
def Tok.fresh:Tok->Bool
 |.full=>true
 |_=>false
def dS(P:Program)(n:Nat)(fl:Nat)(σ:List aB)(t:TypeId)(s x:PD):Option (PD×List aB):=
 if iF t n=true then
  match P.underlying t,mY σ x with
  |some (.slice e),some (sz',ys)=>match P.info? e with
   |some i=>match i.zero with
    |some z=>
     if (ys.length=0\/sz'=i.size)/\0<i.size/\z.cells.size=i.size/\z.cells.toList.all Value.oneCell'=true then
      match s with
      |.slice sz xs tok=>
        if (xs.length=0\/sz=i.size)/\xs.length+ys.length<=maxLen/\(xs.length+ys.length)*i.bytes<=140737488355328/\tok.fresh=true then
         if ys.length=0 then some (s,σ)
         else some (.aF σ.length 0 0 (xs.length+ys.length) i.size,σ++[.row e i.size 0 ((xs++ys).flatMap PD.cells)])
        else none
      |.aF id ver off n sz=>
        if fl<=id/\sz=i.size/\n+ys.length<=maxLen/\(n+ys.length)*i.bytes<=140737488355328 then
         match σ[id]? with
         |some (.row e' j8 eR cs)=>
          if e'=e/\j8=i.size/\eR=ver then
           if off+(n+ys.length)*i.size<=cs.length then some (.aF id ver off (n+ys.length) i.size,σ.set id (.row e i.size ver (cX cs (off+n*i.size) (ys.flatMap PD.cells))))
           else if off=0/\n*i.size=cs.length then some (.aF id (ver+1) 0 (n+ys.length) i.size,σ.set id (.row e i.size (ver+1) (cs++ys.flatMap PD.cells)))
           else none
          else none
         |_=>none
        else none
      |_=>none
     else none
    |none=>none
   |none=>none
  |_,_=>none
 else none
def yR(P:Program)(n:Nat)(σ:List aB)(t:TypeId)(s:PD)(m:Int):Option (PD×List aB):=
 match P.underlying t,s with
 |some (.slice e),.slice _ [] .full=>if p6 P t=true/\iF t n=true/\0<m/\m<=1000000000 then some (.aF σ.length 0 0 m.toNat 1,σ++[.row e 1 0 (List.replicate m.toNat (.int .u8 0))])else none
 |_,_=>none
def QP(P:Program)(fl:Nat)(σ:List aB)(t:TypeId)(s:PD):Option (List aB):=
 match P.underlying t with
 |some (.slice e)=>match s with
  |.slice _ [] _=>some σ
  |.aF id ver off n sz=>match σ[id]?,bT P e,eE P e with
    |some (.row e' j8 eR cs),some m,some z=>
     if fl<=id/\eR=ver/\j8=sz/\m=sz/\z.cells.length=sz/\z.cells.all PD.plain=true/\off+n*sz<=cs.length/\0<sz then some (σ.set id (.row e' j8 ver (cX cs off (qC z sz n))))else none
    |_,_,_=>none
  |_=>none
 |_=>none
def QR(P:Program)(σ:List aB)(st:TypeId)(x:PD):Option (Nat×List PD):=
 match x with
 |.str l=>match P.underlying st with
   |some .string=>some (1,l.map fun b=>.int .u8 b.toNat)
   |_=>none
 |_=>mY σ x
def QT(P:Program)(fl:Nat)(σ:List aB)(dt st:TypeId)(d x:PD):Option (PD×List aB):=
 match P.underlying dt,QR P σ st x with
 |some (.slice e),some (sz',ys)=>match bT P e with
  |some sz=>
   if ys.length=0\/sz'=sz then
    match d with
    |.slice _ [] _=>some (.int .i64 0,σ)
    |.dE id off n j8=>if fl<=id/\j8=sz/\((ys.take n).flatMap PD.cells).all PD.plain=true then(match σ[id]? with
      |some (.box q)=>(match q.setCells off ((ys.take n).flatMap PD.cells)with
       |some q'=>some (.int .i64 (Nat.min ys.length n),σ.set id (.box q'))
       |none=>none)
      |_=>none)else none
    |.aF id ver off n j8=>if fl<=id/\j8=sz then(match σ[id]? with
      |some (.row e' xG eR cs)=>if eR=ver/\xG=sz/\off+((ys.take n).flatMap PD.cells).length<=cs.length then
        some (.int .i64 (Nat.min ys.length n),σ.set id (.row e' xG ver (cX cs off ((ys.take n).flatMap PD.cells))))else none
      |_=>none)else none
    |_=>none
   else none
  |none=>none
 |_,_=>none
def EO(P:Program)(kt:TypeId)(k:PD):Bool:=
 match P.underlying kt,k with
 |some .string,.str _=>true
 |some (.int k0),.int k1 _=>k0==k1
 |_,_=>false
def BW:PD->PD->Option Bool
 |.str a,.str b=>some (a==b)
 |.int k a,.int k' b=>if k=k' then some (a==b)else none
 |_,_=>none
def uN(k:PD):List (PD×PD)->Nat->Option (Option (Nat×PD))
 | [],_=>some none
 |e::es,i=>match BW k e.1 with
  |some true=>some (some (i,e.2))
  |some false=>uN k es (i+1)
  |none=>none
def EP(P:Program)(σ:List aB)(t:TypeId)(x k:PD)(ok:Bool):Option PD:=
 match P.underlying t with
 |some (.map kt e)=>if EO P kt k=true then(match x with
   |.fD id=>(match σ[id]? with
     |some (.map es)=>(match uN k es 0 with
      |some (some (_,v))=>some (if ok then .aH [v,.bool true]else v)
      |some none=>(match eE P e with
       |some z=>some (if ok then .aH [z,.bool false]else z)
       |none=>none)
      |none=>none)
     |_=>none)
   |.eV (.map none)=>(match eE P e with
     |some z=>some (if ok then .aH [z,.bool false]else z)
     |none=>none)
   |_=>none)else none
 |_=>none
def ER(P:Program)(fl:Nat)(σ:List aB)(t:TypeId)(x k v:PD):Option (List aB):=
 match P.underlying t with
 |some (.map kt _)=>if EO P kt k=true then(match x with
   |.fD id=>if fl<=id then(match σ[id]? with
     |some (.map es)=>(match uN k es 0 with
      |some (some (i,_))=>some (σ.set id (.map (es.set i (k,v))))
      |some none=>some (σ.set id (.map (es++[(k,v)])))
      |none=>none)
     |_=>none)else none
   |_=>none)else none
 |_=>none
def rO:List PD->Option (List UInt8)
 | []=>some []
 |.int .u8 n::r=>match rO r with|some l=>some (UInt8.ofNat n.toNat::l)|none=>none
 |_=>none
def HD(P:Program)(s d:TypeId)(x:PD):Option PD:=
 match P.underlying s,P.underlying d,x with
 |some .string,some (.slice e),.str l=>match P.underlying e with
  |some (.int .u8)=>if l.length<=maxLen then some (.slice 1 (l.map fun b=>.int .u8 b.toNat) .any)else none
  |_=>none
 |some (.slice e),some .string,.slice sz xs _=>match P.underlying e with
  |some (.int .u8)=>if xs.length=0\/sz=1 then(match rO xs with|some l=>some (.str l)|none=>none)else none
  |_=>none
 |_,_,_=>none
def xI(σ:List aB):PD->Option (List PD)
 |.dE id off n size=>if size=1 then(match σ[id]? with
   |some (.box p)=>if off+n<=p.cells.length then some ((p.cells.drop off).take n)else none
   |_=>none)else none
 |_=>none
def yX(P:Program)(σ:List aB)(s d:TypeId)(x:PD):Option PD:=
 match xI σ x,P.underlying s,P.underlying d with
 |some xs,some (.slice e),some .string=>(match P.underlying e,rO xs with
  |some (.int .u8),some l=>some (.str l)
  |_,_=>none)
 |_,_,_=>none
def BC(P:Program)(σ:List aB)(t e:TypeId)(l k:Nat):Option (PD×List aB):=
 match P.info? e,bT P e,eE P e with
 |some i,some n,some z=>
  if l<=k/\0<n/\z.cells.length=n/\z.cells.all PD.plain=true/\k<=maxLen/\k*i.bytes<=140737488355328 then
   if l=0/\k≠0 then some (.slice n [] (.own σ.length),σ++[.own e n 0])
   else if l=k then
    if aHt t=true then some (.dE σ.length 0 l n,σ++[.box (.agg (qC z n l))])else some (.slice n (List.replicate l z) .full,σ)
   else none
  else none
 |_,_,_=>none
def dL(P:Program)(fl:Nat)(fr:List PD)(σ:List aB):Op->Option (PD×List aB)
 |.load t x=>match bB fr x with
   |some a=>(match o4 P σ t a with|some p=>some (p,σ)|none=>none)
   |none=>none
 |.store t x y=>match bB fr x,bB fr y with
   |some a,some p=>(match mC P fl σ t a p with|some σ'=>some (.aH [],σ')|none=>none)
   |_,_=>none
 |.alloc t=>match eE P t with
   |some p=>if p.cells.all PD.plain then some (.ptr σ.length 0,σ++[.box (boxed t p)])else none
   |none=>none
 |.box _ x=>match bB fr x with
   |some p=>if p.cells.all PD.plain then some (.ptr σ.length 0,σ++[.box p])else none
   |none=>none
 |.buildSlice t len parts=>match o5 fr parts.toList with
   |some ps=>(match gG P t len (ps.map fun q=>(q.1,q.2.strip))with|some p=>some (p,σ)|none=>none)
   |none=>none
 |.convert s d x=>if BF s d=true then(match bB fr x with
   |some a=>(match HD P s d a with|some p=>some (p,σ)|none=>(match yX P σ s d a with|some p=>some (p,σ)|none=>none))
   |none=>none)else none
 |.makeSlice t l k=>match P.underlying t,iQ (bB fr l),iQ (bB fr k)with
   |some (.slice e),some l,some k=>BC P σ t e l k
   |_,_,_=>none
 |.call { callee:=.builtin .clear,args:=args,argTypes:=ts }=>match gW fr args.toList,ts.toList with
   |some [s],[t]=>(match QP P fl σ t s with|some σ'=>some (.aH [],σ')|none=>none)
   |_,_=>none
 |.call { callee:=.builtin .copy,args:=args,argTypes:=ts }=>match gW fr args.toList,ts.toList with
   |some [d,x],[t,t']=>QT P fl σ t t' d x
   |_,_=>none
 |.makeMap t none=>match P.underlying t with
   |some (.map _ _)=>some (.fD σ.length,σ++[.map []])
   |_=>none
 |.lookup t x k ok=>match bB fr x,bB fr k with
   |some m,some k=>(match EP P σ t m k ok with|some p=>some (p,σ)|none=>none)
   |_,_=>none
 |.mapUpdate t x k v=>match bB fr x,bB fr k,bB fr v with
   |some m,some k,some v=>(match ER P fl σ t m k v with|some σ'=>some (.aH [],σ')|none=>none)
   |_,_,_=>none
 |.call { callee:=.builtin .append,args:=args,argTypes:=ts }=>match gW fr args.toList,ts.toList with
   |some [s,x],[t,t']=>if t=t' then(match dS P fr.length fl σ t s x with|some r=>some r|none=>fZ P fl σ t s x.strip)else(match P.underlying t',x with
    |some .string,.str l=>if p6 P t=true then(match dS P fr.length fl σ t s (.slice (if l.length=0 then 0 else 1) (l.map fun b=>.int .u8 b.toNat) .any)with|some r=>some r|none=>fZ P fl σ t s (.slice (if l.length=0 then 0 else 1) (l.map fun b=>.int .u8 b.toNat) .any))else none
    |some (.int .i64),.int .i64 m=>yR P fr.length σ t s m
    |_,_=>none)
   |_,_=>none
 |_=>none
def pop(P:Program)(fl:Nat)(fr:List PD)(σ:List aB)(op:Op):Option (PD×List aB):=
 match eP P fr op with
 |some p=>some (p,σ)
 |none=>dL P fl fr σ op
def iU(fr:List PD):Op->Option ((FuncId ⊕ Nat)×List PD)
 |.call { callee:=.value g,args:=args,.. }=>match bB fr g,gW fr args.toList with
   |some (.func f cap),some ps=>some (.inl f,ps++cap)
   |some (.dA f first),some ps=>some (.inl f,first++ps)
   |some (.yield id),some ps=>some (.inr id,ps)
   |_,_=>none
 |_=>none
def bE(fr:List PD)(dst:Option Tmp)(p:PD):List PD:=
 match dst with
 |some d=>fr.set d p
 |none=>fr
def bI(ops:Array Oper)(fr:List PD)(j:Nat):Option Bool:=
 match (ops[j]?).bind (·.dst)with
 |some d=>match fr[d]? with
  |some (.bool b)=>some b
  |_=>none
 |none=>none
section
theorem Q3{c:Cx}{v:Value}{p:PD}(h:tG v=some p):VR c v p/\v.oneCell'=true:=by
 unfold tG at h
 split at h<;>simp at h<;>subst h
 ·exact⟨.bool _,rfl⟩
 ·exact⟨.int _ _,rfl⟩
 ·rename_i s
  refine⟨?_,rfl⟩
  have:s=⟨s.data.toList.toArray⟩:=by simp
  conv=>lhs;rw[this]
  exact .str _
 ·refine⟨.slice none 0 0 0 [] .full [] rfl (yAk _) (by simp[maxLen]) (by simp) rfl (by simp) (by simp) (by simp) rfl,rfl⟩
 ·exact⟨.eN,rfl⟩
 ·exact⟨.gU,rfl⟩
 ·exact⟨.eV _ rfl,rfl⟩
 ·exact⟨.eV _ rfl,rfl⟩
theorem aAC{c:Cx}:∀ {vs:List Value} {ps:List PD},tH vs=some ps->aQ c vs ps/\∀v∈vs,v.oneCell'=true
 | [],ps,h=>by simp[tH]at h;subst h;exact⟨⟨rfl,by simp⟩,by simp⟩
 |v::vs,ps,h=>by
  unfold tH at h
  cases h1:tG v with
  |none=>simp[h1]at h
  |some p=>
   cases h2:tH vs with
   |none=>simp[h1,h2]at h
   |some qs=>
    simp[h1,h2]at h
    subst h
    have⟨a1,a2⟩:=Q3 (c:=c) h1
    have⟨⟨b1,b2⟩,b3⟩:=aAC (c:=c) h2
    refine⟨⟨by simp[b1],fun i v' d hv hd=>?_⟩,by simp[a2];exact b3⟩
    cases i with
    |zero=>simp at hv hd;subst hv;subst hd;exact a1
    |succ i=>exact b2 i v' d (by simpa using hv) (by simpa using hd)
theorem Q4{c:Cx}{v:Value}{p:PD}(h:ofValue v=some p):VR c v p:=by
 unfold ofValue at h
 split at h
 ·rename_i cs
  cases h1:tH cs.toList with
  |none=>simp[h1]at h
  |some ps=>
   simp[h1]at h
   subst h
   have⟨⟨b1,b2⟩,b3⟩:=aAC (c:=c) h1
   have:=VR.agg (c:=c) cs.toList ps b1 b3 b2
   simpa using this
 ·rename_i vs
  split at h
  ·rename_i h0
   simp at h
   subst h
   have:vs=#[]:=Array.eq_empty_of_size_eq_zero h0
   subst this
   exact VR.aH [] [] rfl (by simp)
  ·simp at h
 ·exact(Q3 h).1
def FR(c:Cx)(a:Act)(fr:List PD):Prop:=aQ c a.tmps.toList fr/\Gl c
theorem FR.mono{fl:Nat}{c c':Cx}(h:Nx fl c c'){a:Act}{fr:List PD}(hf:FR c a fr):FR c' a fr:=⟨aQ.mono h hf.1,hf.2.mono h⟩
theorem H0(c:Cx):VR c undef (.aH []):=VR.aH [] [] rfl (by simp)
theorem FR.tmp{c:Cx}{a:Act}{fr:List PD}(hf:FR c a fr)(t:Nat):VR c (a.tmps.getD t undef) (fr.getD t (.aH [])):=by
 obtain⟨⟨hl,h⟩,_⟩:=hf
 rcases Nat.lt_or_ge t fr.length with hlt|hge
 ·have h1:t<a.tmps.size:=by have:=hl;simp at this;omega
  have:=h t a.tmps[t] fr[t] (by simp[h1]) (by simp[hlt])
  simpa [h1,hlt]using this
 ·have h1:a.tmps.size<=t:=by have:=hl;simp at this;omega
  simp[Array.getElem?_eq_none h1,List.getElem?_eq_none hge]
  exact H0 c
theorem dW{c:Cx}{a:Act}{fr:List PD}(hf:FR c a fr){x:Operand}{p:PD}(h:bB fr x=some p):VR c (a.eval x) p:=by
 cases x with
 |tmp t=>simp only[bB,yAb]at h;subst h;exact hf.tmp t
 |const v=>exact Q4 h
 |global g=>
  simp only[bB]at h
  split at h
  ·rename_i ds hg
   simp only[yAb]at h;subst h
   exact hf.2.1 g ds hg
  ·simp at h
 |func f=>simp only[bB,yAb]at h;subst h;exact VR.func f [] [] rfl (by simp)
theorem qX{c:Cx}{a:Act}{fr:List PD}(hf:FR c a fr):∀ {xs:List Operand} {ps:List PD},gW fr xs=some ps->aQ c (xs.map a.eval) ps
 | [],ps,h=>by simp[gW]at h;subst h;exact⟨rfl,by simp⟩
 |x::xs,ps,h=>by
  unfold gW at h
  cases h1:bB fr x with
  |none=>simp[h1]at h
  |some p=>
   cases h2:gW fr xs with
   |none=>simp[h1,h2]at h
   |some qs=>
    simp[h1,h2]at h
    subst h
    have a1:=dW hf h1
    have⟨b1,b2⟩:=qX hf h2
    refine⟨by simpa using b1,fun i v d hv hd=>?_⟩
    cases i with
    |zero=>simp at hv hd;subst hv;subst hd;exact a1
    |succ i=>exact b2 i v d (by simpa using hv) (by simpa using hd)
section inv
variable{c:Cx}{v:Value}
theorem VR.xD{b:Bool}(h:VR c v (.bool b)):v=.bool b:=by cases h;rfl
theorem VR.nV{k:IntKind}{n:Int}(h:VR c v (.int k n)):v=.int k n:=by cases h;rfl
theorem VR.qA{s:List UInt8}(h:VR c v (.str s)):v=.string ⟨s.toArray⟩:=by cases h;rfl
theorem VR.xO{ds:List PD}(h:VR c v (.agg ds)):∃cs:List Value,v=.agg cs.toArray/\aQ c cs ds/\∀v∈cs,v.oneCell'=true:=by
 cases h with|agg cs _ h1 h2 h3=>exact⟨cs,rfl,⟨h1,h3⟩,h2⟩
theorem VR.aHn{ds:List PD}(h:VR c v (.aH ds)):∃cs:List Value,v=.tuple cs.toArray/\aQ c cs ds:=by
 cases h with|aH cs _ h1 h2=>exact⟨cs,rfl,⟨h1,h2⟩⟩
theorem VR.HK{f:Nat}{ds:List PD}(h:VR c v (.func f ds)):∃cs:List Value,v=.func (.func f) #[] cs.toArray/\aQ c cs ds:=by
 cases h with|func _ cs _ h1 h2=>exact⟨cs,rfl,⟨h1,h2⟩⟩
theorem VR.ZS{f:Nat}{ds:List PD}(h:VR c v (.dA f ds)):∃cs:List Value,v=.func (.func f) cs.toArray #[]/\aQ c cs ds:=by
 cases h with|dA _ cs _ h1 h2=>exact⟨cs,rfl,⟨h1,h2⟩⟩
theorem VR.rT{id off:Nat}(h:VR c v (.ptr id off)):∃b,v=.pointer (some ⟨b,off,none⟩)/\c.D id/\(∃p,c.σ[id]?=some (.box p))/\c.ρ id=.pointer (some ⟨b,0,none⟩):=by
 cases h with|ptr _ _ b h1 h2 h3=>exact⟨b,rfl,h1,h2,h3⟩
theorem VR.yW{id off n size:Nat}(h:VR c v (.dE id off n size)):∃b cap,v=.slice (some ⟨b,off,none⟩) n cap/\c.D id/\(∃p,c.σ[id]?=some (.box p))/\c.ρ id=.pointer (some ⟨b,0,none⟩)/\n<=cap/\cap<=maxLen:=by
 cases h with|dE _ _ _ cap _ b h1 h2 h3 h4 h5=>exact⟨b,cap,rfl,h1,h2,h3,h4,h5⟩
theorem VR.wE{id ver off n size:Nat}(h:VR c v (.aF id ver off n size)):∃b cap,v=.slice (some ⟨b,off,none⟩) n cap/\B0 c id ver (fun sz r=>sz=size/\∃C,r=.slice (some ⟨b,0,none⟩) 0 C/\off+cap*size=C*size)/\n<=cap/\cap<=maxLen:=by
 cases h with|aF _ _ _ _ cap _ b h1 h2 h3=>exact⟨b,cap,rfl,h1,h2,h3⟩
theorem VR.EJ{id ver off:Nat}(h:VR c v (.dQ id ver off)):∃b,v=.pointer (some ⟨b,off,none⟩)/\B0 c id ver (fun _ r=>∃C,r=.slice (some ⟨b,0,none⟩) 0 C):=by
 cases h with|dQ _ _ _ b h1=>exact⟨b,rfl,h1⟩
theorem VR.aGW{id:Nat}(h:VR c v (.fD id)):∃b,v=.map (some b)/\c.D id/\lU c.σ[id]?/\c.ρ id=.map (some b):=by
 cases h with|fD _ b h1 h2 h3=>exact⟨b,rfl,h1,h2,h3⟩
theorem VR.BZ(h:VR c v .eN):v=.pointer none:=by cases h;rfl
theorem VR.MK(h:VR c v .gU):v=.nilFunc:=by cases h;rfl
theorem VR.ET{ds:List PD}{off:Nat}(h:VR c v (.eF ds off)):∃(ad:Addr) (fl:List Value),v=.pointer (some (ad.add off))/\aQ c fl ds/\(∀v∈fl,v.oneCell'=true) /\
  ∀(j:Nat) (v:Value),fl[j]?=some v->c.w.cell? (ad.add j)=some v/\c.av (ad.add j):=by
 cases h with|eF ad fl _ _ h1 h2 h3 h4=>exact⟨ad,fl,rfl,⟨h1,h4⟩,h2,h3⟩
theorem VR.nW{size:Nat}{xs:List PD}{tok:Tok}(h:VR c v (.slice size xs tok)):∃(A:Option Addr) (cap:Nat) (fl:List Value),v=.slice A xs.length cap/\xs.length<=cap/\cap<=maxLen /\
  (∀x∈xs,x.cells.length=size)/\fl.length=xs.length*size/\(∀v∈fl,v.oneCell'=true) /\
  (∀(j:Nat) (v:Value),fl[j]?=some v->∃ad,A=some ad/\c.w.cell? (ad.add j)=some v/\c.av (ad.add j)) /\
  (∀(j:Nat) (v:Value) (d:PD),fl[j]?=some v->(xs.flatMap PD.cells)[j]?=some d->VR c v d)/\qB c size xs.length cap (.slice A xs.length cap) tok:=by
 cases h with|slice A n cap _ _ _ fl h1 h2 h3 h4 h5 h6 h7 h8 h9=>subst h1;exact⟨A,cap,fl,rfl,h2,h3,h4,h5,h6,h7,h8,h9⟩
end inv
theorem VR.cells{c:Cx}{v:Value}{p:PD}(h:VR c v p):aQ c v.cells.toList p.cells:=by
 cases h with
 |agg cs ds h1 h2 h3=>exact⟨by simpa [Value.cells,PD.cells]using h1,by simpa [Value.cells,PD.cells]using h3⟩
 |eV v h=>
  have e:v.cells=#[v]:=by cases v<;>first|rfl|simp[ML]at h
  rw[e]
  refine⟨rfl,fun i v' d hv hd=>?_⟩
  cases i with
  |zero=>
   simp[PD.cells]at hv hd
   subst hv;subst hd
   exact .eV v h
  |succ i=>simp at hv
 |_=>
  refine⟨by simp[Value.cells,PD.cells],fun i v' d hv hd=>?_⟩
  cases i with
  |zero=>
   simp[Value.cells,PD.cells]at hv hd
   subst hv;subst hd
   constructor<;>assumption
  |succ i=>simp[Value.cells]at hv
theorem VR.plain{c:Cx}{v:Value}{p:PD}(h:VR c v p):p.plain=v.oneCell':=by
 cases h with
 |eV v h=>cases v<;>first|rfl|simp[ML]at h
 |_=>rfl
theorem aQ.uL{c:Cx}{cs:List Value}{ds:List PD}(h:aQ c cs ds)(hp:ds.all PD.plain=true):∀v∈cs,v.oneCell'=true:=by
 intro v hv
 obtain⟨i,hi⟩:=List.getElem?_of_mem hv
 have hlt:i<ds.length:=by rw[<-h.1];exact(yA.1 hi).1
 have h1:=h.2 i v ds[i] hi (by simp[hlt])
 rw[<-h1.plain]
 exact yAn.1 hp _ (yAm hlt)
theorem aQ.take_drop{c:Cx}{cs:List Value}{ds:List PD}(h:aQ c cs ds)(off n:Nat):aQ c ((cs.drop off).take n) ((ds.drop off).take n):=by
 refine⟨by simp[h.1],fun i v d hv hd=>?_⟩
 rw[yAv]at hv hd
 split at hv
 ·rename_i hlt
  rw[if_pos hlt]at hd
  rw[List.getElem?_drop]at hv hd
  exact h.2 _ v d hv hd
 ·simp at hv
theorem aQ.get{c:Cx}{cs:List Value}{ds:List PD}(h:aQ c cs ds){i:Nat}{d:PD}(hd:ds[i]?=some d):∃v,cs[i]?=some v/\VR c v d:=by
 have hlt:i<cs.length:=by rw[h.1];exact(yA.1 hd).1
 exact⟨cs[i],by simp[hlt],h.2 i cs[i] d (by simp[hlt]) hd⟩
theorem MC{P:Program}{t:TypeId}{n:Nat}(h:bT P t=some n):∃i,P.info? t=some i/\i.size=n:=by
 unfold bT at h;split at h<;>simp at h;exact⟨_,‹_›,h⟩
theorem lW{P:Program}{w:World}{t:TypeId}{n:Nat}(h:bT P t=some n):(sizeOf t).run P w=.ok n w:=by
 obtain⟨i,h1,h2⟩:=MC h
 simp[sizeOf,typeInfo,h1,h2]
theorem MF{P:Program}{w:World}{t:TypeId}{b:Bool}(h:fN P t=some b):(isAgg t).run P w=.ok b w:=by
 unfold fN at h
 split at h<;>simp at h<;>subst h
 ·rename_i hu;simp[isAgg,run_underlying hu]
 ·rename_i hu;simp[isAgg,run_underlying hu]
 ·rename_i d h1 h2 hu
  simp only[isAgg,Sem.run_bind,run_underlying hu,Result.andThen_ok]
  rfl
theorem EU{P:Program}{c:Cx}{cs:List Value}{ds:List PD}(h:aQ c cs ds)(h1:∀v∈cs,v.oneCell'=true){t:TypeId}{off:Nat}{p:PD}(hp:nQ P t ds off=some p)(w:World) :
  ∃v,(part t cs.toArray off).run P w=.ok v w/\VR c v p:=by
 unfold nQ at hp
 split at hp
 ·rename_i n ha hs
  split at hp
  ·simp at hp
   subst hp
   refine⟨.agg ((cs.drop off).take n).toArray,?_,?_⟩
   ·simp[part,MF ha,lW hs,List.extract_toArray,List.extract_eq_take_drop]
   ·have h2:=h.take_drop off n
    exact .agg _ _ h2.1 (fun v hv=>h1 v (List.mem_of_mem_drop (yAy hv))) h2.2
  ·simp at hp
 ·rename_i n ha hs
  obtain⟨v,hv,hr⟩:=h.get hp
  exact⟨v,by simp[part,MF ha,hv],hr⟩
 ·simp at hp
end
section
theorem aAA(l:List UInt8):(ByteArray.mk l.toArray).toList=l:=by rw[ByteArray.toList_eq]
theorem aAz{op:BinOp}{k:IntKind}{x y z:Int}(h:wA op k x y=some z)(P:Program)(w:World):(Op.intBits op k x y).run P w=.ok (.int k z) w:=by
 cases op<;>simp only[wA,yAb,reduceCtorEq]at h<;>subst h<;>rfl
theorem aHq{op:BinOp}{k:IntKind}{x y:Int}{p:PD}(h:gY op k x y=some p)(hs:op≠.shl/\op≠.shr)(c:Cx)(P:Program)(t:TypeId)(w:World) :
  ∃v,(binOp op t (.int k x) (.int k y)).run P w=.ok v w/\VR c v p:=by
 cases op<;>simp only[gY]at h<;>first
  |(simp at hs;done)
  |(simp at h;subst h;refine⟨_,?_,VR.int _ _⟩;simp[binOp,Op.intArith];done)
  |(simp at h;subst h;refine⟨_,?_,VR.bool _⟩;simp[binOp,Op.intCmp];done)
  |(split at h
    ·simp at h
    ·rename_i h0;simp at h;subst h;refine⟨_,?_,VR.int _ _⟩;simp[binOp,Op.intDiv,h0])
  |(split at h
    ·rename_i z hz;simp at h;subst h;refine⟨_,?_,VR.int _ _⟩;simp only[binOp,ne_eq,not_true_eq_false,if_false];exact aAz hz P w
    ·simp at h)
theorem aAw{op:BinOp}{k k':IntKind}{x y:Int}{p:PD}(h:BK op k x y=some p)(hs:op=.shl\/op=.shr)(c:Cx)(P:Program)(t:TypeId)(w:World) :
  ∃v,(binOp op t (.int k x) (.int k' y)).run P w=.ok v w/\VR c v p:=by
 unfold BK at h
 split at h
 ·simp at h
 ·rename_i h0
  rcases hs with rfl|rfl<;>simp at h<;>subst h<;>refine⟨_,?_,VR.int _ _⟩<;>simp[binOp,Op.shift,h0]
theorem aHs(a b:List UInt8):(ByteArray.mk a.toArray)++(ByteArray.mk b.toArray)=ByteArray.mk (a++b).toArray:=by
 apply ByteArray.ext
 simp
theorem MH(a:List UInt8):(ByteArray.mk a.toArray).size=a.length:=by simp[ByteArray.size]
theorem aHr{op:BinOp}{x y:List UInt8}{p:PD}(h:HH op x y=some p)(c:Cx)(P:Program)(t:TypeId)(w:World) :
  ∃v,(binOp op t (.string ⟨x.toArray⟩) (.string ⟨y.toArray⟩)).run P w=.ok v w/\VR c v p:=by
 cases op<;>simp only[HH]at h<;>first
  |(simp at h;done)
  |(split at h
    ·rename_i hl
     simp at h;subst h
     refine⟨_,?_,VR.str _⟩
     have:¬((((ByteArray.mk x.toArray).size+(ByteArray.mk y.toArray).size:Nat):Int) > IntKind.i64.max):=by
      rw[MH,MH]
      simp only[maxLen]at hl
      simp[IntKind.max,IntKind.signed,IntKind.bits]
      omega
     simp only[binOp,Op.stringOp,if_neg this,Sem.run_pure,aHs]
    ·simp at h)
  |(simp at h;subst h;refine⟨_,?_,VR.bool _⟩;simp[binOp,Op.stringOp])
section eq
variable{P:Program}{c:Cx}
theorem Q8{eq:TypeId->PD->PD->Option Bool}{d:Nat}
  (ih:∀t x y b vx vy (w:World),eq t x y=some b->VR c vx x->VR c vy y->(Op.equalIn d t vx vy).run P w=.ok b w)
  {xs ys:List Value} {px py:List PD} (hx:aQ c xs px) (hx1:∀v∈xs,v.oneCell'=true) (hy:aQ c ys py) (hy1:∀v∈ys,v.oneCell'=true) (w:World) :
  ∀(fs:List Field) (b:Bool),xB eq P px py fs=some b->(Op.eqFields d xs.toArray ys.toArray fs).run P w=.ok b w
 | [],b,h=>by simp[xB]at h;subst h;rfl
 |f::fs,b,h=>by
  unfold xB at h
  unfold Op.eqFields
  split at h
  ·rename_i hn
   rw[if_neg (by simpa using hn)]
   exact Q8 ih hx hx1 hy hy1 w fs b h
  ·rename_i hn
   rw[if_pos (by simpa using hn)]
   split at h
   ·rename_i a b' ha hb
    obtain⟨va,ra,qa⟩:=EU hx hx1 ha w
    obtain⟨vb,rb,qb⟩:=EU hy hy1 hb w
    split at h
    ·rename_i he
     have:=ih _ _ _ _ va vb w he qa qb
     simp only[Sem.run_bind,ra,rb,this,Result.andThen_ok]
     simpa using Q8 ih hx hx1 hy hy1 w fs b h
    ·rename_i he
     simp at h;subst h
     have:=ih _ _ _ _ va vb w he qa qb
     simp[ra,rb,this]
    ·simp at h
   ·simp at h
theorem aAB{e:TypeId}{eq:PD->PD->Option Bool}{d n:Nat}(hn:bT P e=some n)
  (ih:∀x y b vx vy (w:World),eq x y=some b->VR c vx x->VR c vy y->(Op.equalIn d e vx vy).run P w=.ok b w)
  {xs ys:List Value} {px py:List PD} (hx:aQ c xs px) (hx1:∀v∈xs,v.oneCell'=true) (hy:aQ c ys py) (hy1:∀v∈ys,v.oneCell'=true) (w:World) :
  ∀(m i:Nat) (b:Bool),yO eq P e n px py i m=some b ->
   (forIn (m:=Sem) (List.range' i m) (none,PUnit.unit) (fun(i:Nat) (_:Option Bool×PUnit)=>do
    if !(<-Op.equalIn d e (<-part e xs.toArray (i*n)) (<-part e ys.toArray (i*n)))then
     pure (ForInStep.done (some false,PUnit.unit))
    else do
     pure PUnit.unit
     pure (ForInStep.yield (none,PUnit.unit)))).run P w=.ok (if b then none else some false,PUnit.unit) w
 |0,i,b,h=>by simp[yO]at h;subst h;rfl
 |m+1,i,b,h=>by
  unfold yO at h
  split at h
  ·rename_i a b' ha hb
   obtain⟨va,ra,qa⟩:=EU hx hx1 ha w
   obtain⟨vb,rb,qb⟩:=EU hy hy1 hb w
   split at h
   ·rename_i he
    have:=ih _ _ _ va vb w he qa qb
    rw[List.range'_succ]
    have r:=aAB hn ih hx hx1 hy hy1 w m (i+1) b h
    simp only[List.forIn_cons,Sem.run_bind,ra,rb,this,Result.andThen_ok,Bool.not_true,yAx,if_false,Sem.run_pure]
    exact r
   ·rename_i he
    simp at h;subst h
    have:=ih _ _ _ va vb w he qa qb
    rw[List.range'_succ]
    simp[ra,rb,this]
   ·simp at h
  ·simp at h
theorem MJ:∀(d k:Nat) (t:TypeId) (x y:PD) (b:Bool) (vx vy:Value) (w:World),lS P d t x y=some b->VR c vx x->VR c vy y ->
  (Op.equalIn (d+k) t vx vy).run P w=.ok b w
 |0,_,_,_,_,_,_,_,_,h,_,_=>by simp[lS]at h
 |d+1,k,t,x,y,b,vx,vy,w,h,hx,hy=>by
  rw[show d+1+k=(d+k)+1 by omega]
  unfold lS at h
  split at h
  ·rename_i hu
   split at h<;>simp at h
   subst h;rw[hx.xD,hy.xD];exact run_equalIn_bool' w _ t _ _ hu
  ·rename_i kk hu
   split at h<;>simp at h
   obtain⟨rfl,rfl⟩:=h
   rw[hx.nV,hy.nV];exact run_equalIn_int w _ t _ kk _ _ hu
  ·rename_i hu
   split at h<;>simp at h
   subst h;rw[hx.qA,hy.qA,run_equalIn_string w _ t _ _ hu,aAA,aAA]
  ·rename_i e hu
   split at h<;>simp at h<;>subst h
   ·rw[hx.BZ,hy.BZ];simp[Op.equalIn,run_underlying hu]
   ·obtain⟨b,e2,_⟩:=hy.rT;rw[hx.BZ,e2];simp[Op.equalIn,run_underlying hu]
   ·obtain⟨ad,fl,e2,_⟩:=hy.ET;rw[hx.BZ,e2];simp[Op.equalIn,run_underlying hu]
   ·obtain⟨b,e2,_⟩:=hx.rT;rw[hy.BZ,e2];simp[Op.equalIn,run_underlying hu]
   ·obtain⟨ad,fl,e2,_⟩:=hx.ET;rw[hy.BZ,e2];simp[Op.equalIn,run_underlying hu]
  ·rename_i hu
   split at h<;>simp at h<;>subst h
   ·rw[hx.MK,hy.MK];simp[Op.equalIn,run_underlying hu]
   ·obtain⟨_,e2,_⟩:=hy.HK;rw[hx.MK,e2];simp[Op.equalIn,run_underlying hu]
   ·obtain⟨_,e2,_⟩:=hx.HK;rw[hy.MK,e2];simp[Op.equalIn,run_underlying hu]
  ·rename_i fs hu
   split at h
   ·rename_i px py
    split at h
    ·simp at h
    ·rename_i hst
     obtain⟨xs,rfl,hxs,hx1⟩:=hx.xO
     obtain⟨ys,rfl,hys,hy1⟩:=hy.xO
     have hfo:P.fieldsOf t=fs:=by simp[Program.fieldsOf,hu]
     rw[run_equalIn_struct w _ t _ _ (by rw[hfo];exact hu) (by simpa using hst),hfo]
     exact Q8 (fun t x y b vx vy w h hx hy=>MJ d k t x y b vx vy w h hx hy) hxs hx1 hys hy1 w fs.toList b h
   ·simp at h
  ·rename_i len e hu
   split at h
   ·rename_i px py
    split at h
    ·rename_i n hn
     obtain⟨xs,rfl,hxs,hx1⟩:=hx.xO
     obtain⟨ys,rfl,hys,hy1⟩:=hy.xO
     have r:=aAB (P:=P) (d:=d+k) hn (fun x y b vx vy w h hx hy=>MJ d k e x y b vx vy w h hx hy) hxs hx1 hys hy1 w len 0 b h
     simp only[Op.equalIn,Sem.run_bind,run_underlying hu,lW hn,Result.andThen_ok]
     rw[Std.Legacy.Range.forIn_eq_forIn_range']
     simp only[Std.Legacy.Range.size]
     rw[show(len-0+1-1)/1=len by simp]
     refine Eq.trans (congrArg (fun z=>Result.andThen z _) r) ?_
     cases b<;>rfl
    ·simp at h
   ·simp at h
  ·simp at h
end eq
end
section
section
variable{P:Program}{c:Cx}
theorem aAt{d:Nat}{t:TypeId}{x y:PD}{b:Bool}(h:lS P d t x y=some b):(∀v,x≠.eV v)/\∀v,y≠.eV v:=by
 cases d with
 |zero=>cases h
 |succ d=>
  unfold lS at h
  constructor
  ·rintro v rfl
   split at h<;>cases h
  ·rintro v rfl
   split at h<;>(first|(cases h;done)|(split at h<;>first|(cases h;done)|(rename_i h' ;cases h';done)|contradiction))
theorem aAu{t:TypeId}{x y:PD}{b:Bool}(h:o3 P t x y=some b):(∀v,x≠.eV v)/\∀v,y≠.eV v:=by
 unfold o3 at h
 split at h
 ·exact⟨fun v e=>(by cases e),fun v e=>(by cases e)⟩
 ·exact aAt h
theorem aAv{t:TypeId}{x y:PD}{b:Bool}(h:o3 P t x y=some b){vx vy:Value}(hx:VR c vx x)(hy:VR c vy y)(w:World)(op:BinOp)(ox oy:Operand) :
  (Op.equal t vx vy).run P w=.ok b w/\(eqGuard op t ox oy vx vy).run P w=.ok () w:=by
 unfold o3 at h
 split at h
 ·rename_i px py
  split at h
  ·simp at h
  ·rename_i hg
   refine⟨MJ 12 9988 t _ _ b vx vy w h hx hy,?_⟩
   obtain⟨xs,rfl,_⟩:=hx.xO
   obtain⟨ys,rfl,_⟩:=hy.xO
   exact run_eqGuard_agg w op t ox oy _ _ (by simpa using hg)
 ·rename_i hne
  refine⟨MJ 12 9988 t _ _ b vx vy w h hx hy,?_⟩
  obtain⟨q1,q2⟩:=aAt h
  cases hx<;>cases hy<;>first
   |exact(hne _ _ rfl rfl).elim
   |exact absurd rfl (q1 _)
   |exact absurd rfl (q2 _)
   |(cases op<;>rfl)
theorem aHe{op:BinOp}{t:TypeId}{x y p:PD}(h:eA P op t x y=some p){vx vy:Value}(hx:VR c vx x)(hy:VR c vy y)(w:World)(ox oy:Operand) :
  ∃v,(do eqGuard op t ox oy vx vy;binOp op t vx vy:Sem Value).run P w=.ok v w/\VR c v p:=by
 unfold eA at h
 split at h
 ·rename_i k a k' b
  have e1:=hx.nV
  have e2:=hy.nV
  subst e1;subst e2
  have hg:(eqGuard op t ox oy (.int k a) (.int k' b)).run P w=.ok () w:=by cases op<;>rfl
  split at h
  ·obtain⟨v,r,q⟩:=aAw (k':=k') h (.inl rfl) c P t w
   exact⟨v,by simp[hg,r],q⟩
  ·obtain⟨v,r,q⟩:=aAw (k':=k') h (.inr rfl) c P t w
   exact⟨v,by simp[hg,r],q⟩
  ·rename_i n1 n2
   split at h
   ·rename_i hk
    subst hk
    obtain⟨v,r,q⟩:=aHq h ⟨by rintro rfl;exact n1 rfl,by rintro rfl;exact n2 rfl⟩ c P t w
    exact⟨v,by simp[hg,r],q⟩
   ·simp at h
 ·rename_i a b
  have e1:=hx.qA
  have e2:=hy.qA
  subst e1;subst e2
  have hg:(eqGuard op t ox oy (.string ⟨a.toArray⟩) (.string ⟨b.toArray⟩)).run P w=.ok () w:=by cases op<;>rfl
  obtain⟨v,r,q⟩:=aHr h c P t w
  exact⟨v,by simp[hg,r],q⟩
 ·rename_i n1 n2
  split at h
  ·split at h
   ·rename_i b hb
    simp at h;subst h
    obtain⟨r1,r2⟩:=aAv hb hx hy w .eql ox oy
    refine⟨.bool b,?_,.bool b⟩
    simp only[Sem.run_bind,r2,Result.andThen_ok]
    have:(binOp .eql t vx vy)=(do pure (.bool (<-Op.equal t vx vy)):Sem Value):=by
     obtain⟨q1,q2⟩:=aAu hb
     cases hx<;>cases hy<;>first|(exact absurd rfl (q1 _))|(exact absurd rfl (q2 _))|rfl|(exact(n1 _ _ _ _ rfl rfl).elim)|(exact(n2 _ _ rfl rfl).elim)
    rw[this]
    simp[r1]
   ·simp at h
  ·split at h
   ·rename_i b hb
    simp at h;subst h
    obtain⟨r1,r2⟩:=aAv hb hx hy w .neq ox oy
    refine⟨.bool (!b),?_,.bool _⟩
    simp only[Sem.run_bind,r2,Result.andThen_ok]
    have:(binOp .neq t vx vy)=(do pure (.bool (!(<-Op.equal t vx vy))):Sem Value):=by
     obtain⟨q1,q2⟩:=aAu hb
     cases hx<;>cases hy<;>first|(exact absurd rfl (q1 _))|(exact absurd rfl (q2 _))|rfl|(exact(n1 _ _ _ _ rfl rfl).elim)|(exact(n2 _ _ rfl rfl).elim)
    rw[this]
    simp[r1]
   ·simp at h
  ·simp at h
theorem aAx{v:Value}{a:PD}{b:Bool}(hv:VR c v a)(h:qQ a=some b):∃A n cap,v=.slice A n cap/\b=A.isNone:=by
 unfold qQ at h
 split at h
 ·rename_i n xs tok
  obtain⟨A,cap,fl,rfl,h1,h2,h3,h4,h5,h6,h7,h8⟩:=hv.nW
  refine⟨A,xs.length,cap,rfl,?_⟩
  split at h
  ·rename_i hc
   simp only[yAb]at h
   subst h
   have:0<fl.length:=by rw[h4];exact Nat.mul_pos (Nat.pos_of_ne_zero hc.1) (Nat.pos_of_ne_zero hc.2)
   obtain⟨ad,rfl,_⟩:=h6 0 fl[0] (by simp[this])
   rfl
  ·split at h
   ·simp only[yAb]at h
    subst h
    obtain⟨e,_⟩:=h8
    simp only[Value.slice.injEq]at e
    rw[e.1]
    rfl
   ·simp only[yAb]at h
    subst h
    obtain⟨k,m,e⟩:=h8
    simp only[Value.slice.injEq]at e
    rw[e.1]
    rfl
   ·simp only[yAb]at h
    subst h
    obtain⟨a',k,m,e⟩:=h8
    simp only[Value.slice.injEq]at e
    rw[e.1]
    rfl
   ·cases h
 ·obtain⟨b,cap,rfl,_⟩:=hv.yW
  simp only[yAb]at h
  subst h
  exact⟨_,_,_,rfl,rfl⟩
 ·obtain⟨b,cap,rfl,_⟩:=hv.wE
  simp only[yAb]at h
  subst h
  exact⟨_,_,_,rfl,rfl⟩
 ·cases h
theorem aAy{t e:TypeId}(hu:P.underlying t=some (.slice e))(A:Option Addr)(n cap:Nat)(w:World):(Op.equal t (.slice A n cap) (.slice none 0 0)).run P w=.ok A.isNone w:=by
 show(Op.equalIn (9999+1) t (.slice A n cap) (.slice none 0 0)).run P w=_
 unfold Op.equalIn
 cases A<;>simp[run_underlying hu]
theorem aHf{op:BinOp}{t:TypeId}{a p:PD}{y:Operand}(h:yP P op t a y=some p){ac:Act}{vx:Value}(hx:VR c vx a)(w:World)(ox:Operand) :
  ∃v,(do eqGuard op t ox y vx (ac.eval y);binOp op t vx (ac.eval y):Sem Value).run P w=.ok v w/\VR c v p:=by
 unfold yP at h
 split at h
 ·split at h
  ·rename_i e hu
   split at h
   ·rename_i b hb
    simp only[yAb]at h
    subst h
    obtain⟨A,n,cap,rfl,rfl⟩:=aAx hx hb
    refine⟨.bool A.isNone,?_,.bool _⟩
    have hg:(eqGuard .eql t ox (.const (.slice none 0 0)) (.slice A n cap) (.slice none 0 0)).run P w=.ok () w:=rfl
    have hb:(binOp .eql t (.slice A n cap) (.slice none 0 0))=(do pure (.bool (<-Op.equal t (.slice A n cap) (.slice none 0 0))):Sem Value):=rfl
    simp only[Act.eval,Sem.run_bind,hg,hb,Result.andThen_ok,aAy hu,Sem.run_pure]
   ·rename_i b hb
    simp only[yAb]at h
    subst h
    obtain⟨A,n,cap,rfl,rfl⟩:=aAx hx hb
    refine⟨.bool (!A.isNone),?_,.bool _⟩
    have hg:(eqGuard .neq t ox (.const (.slice none 0 0)) (.slice A n cap) (.slice none 0 0)).run P w=.ok () w:=rfl
    have hb:(binOp .neq t (.slice A n cap) (.slice none 0 0))=(do pure (.bool (!(<-Op.equal t (.slice A n cap) (.slice none 0 0)))):Sem Value):=rfl
    simp only[Act.eval,Sem.run_bind,hg,hb,Result.andThen_ok,aAy hu,Sem.run_pure]
   ·cases h
  ·cases h
 ·cases h
theorem aHg{op:UnOp}{x p:PD}(h:D7 op x=some p){vx:Value}(hx:VR c vx x)(w:World):∃v,(Op.unary op vx).run P w=.ok v w/\VR c v p:=by
 unfold D7 at h
 split at h
 ·simp only[yAb]at h;subst h;rw[hx.nV];exact⟨_,rfl,.int _ _⟩
 ·rw[hx.nV]
  split at h
  ·rename_i z hz;simp at h;subst h;exact⟨_,aAz hz P w,.int _ _⟩
  ·simp at h
 ·simp at h;subst h;rw[hx.xD];exact⟨_,rfl,.bool _⟩
 ·simp at h
theorem aHh{s d:TypeId}{x p:PD}(h:HE P s d x=some p){vx:Value}(hx:VR c vx x)(w:World):∃v,(convert s d vx).run P w=.ok v w/\VR c v p:=by
 unfold HE at h
 split at h
 ·rename_i hs hd
  simp at h;subst h;rw[hx.nV]
  exact⟨_,by simp[convert,run_underlying hs,run_underlying hd,Conv.intToInt],.int _ _⟩
 ·rename_i hs hd
  simp at h;subst h;rw[hx.qA]
  exact⟨_,by simp[convert,run_underlying hs,run_underlying hd],.str _⟩
 ·simp at h
theorem BR{x:PD}{i:Nat}(h:iQ (some x)=some i){v:Value}(hx:VR c v x):∃k z,v=.int k z/\0<=z/\z.toNat=i:=by
 unfold iQ at h
 split at h
 ·rename_i k z e
  simp at e;subst e
  split at h
  ·simp at h;exact⟨k,z,hx.nV,‹_›,h⟩
  ·simp at h
 ·simp at h
theorem A9(a:Addr)(i j:Nat):(a.add i).add j=a.add (i+j):=by
 unfold Addr.add
 by_cases hi:i=0<;>by_cases hj:j=0<;>simp[hi,hj,Nat.add_assoc]
theorem Q7{s:TypeId}{fs:Array Field}{fd:Field}{f n:Nat}(hu:P.underlying s=some (.struct fs))(hf:fs[f]?=some fd)(hn:bT P fd.type=some n)(h0:n≠0)(a:Addr)(w:World) :
  (Instr.fieldAt s (.pointer (some a)) f).run P w=.ok (.pointer (some (a.add fd.offset))) w:=by
 simp[Instr.fieldAt,run_underlying hu,hf,Instr.sureAddr,fieldPlace,lW hn,h0]
theorem aHj{s:TypeId}{x p:PD}{f:Nat}(h:D8 P s x f=some p){vx:Value}(hx:VR c vx x)(w:World):∃v,(Instr.fieldAt s vx f).run P w=.ok v w/\VR c v p:=by
 unfold D8 at h
 split at h
 ·rename_i fs hu
  split at h
  ·rename_i fd hf
   split at h
   ·rename_i n hn
    split at h
    ·simp at h
    ·rename_i h0
     split at h
     ·rename_i id off
      simp at h;subst h
      obtain⟨b,rfl,h1,h2,h3⟩:=hx.rT
      refine⟨_,Q7 hu hf hn h0 _ w,?_⟩
      have:(⟨b,off,none⟩:Addr).add fd.offset=⟨b,off+fd.offset,none⟩:=by unfold Addr.add;split<;>simp_all
      rw[this]
      exact .ptr _ _ b h1 h2 h3
     ·rename_i cs off
      simp at h;subst h
      obtain⟨ad,fl,rfl,h1,h2,h3⟩:=hx.ET
      refine⟨_,Q7 hu hf hn h0 _ w,?_⟩
      rw[A9]
      exact .eF ad fl cs _ h1.1 h2 h3 h1.2
     ·rename_i id ver off
      simp at h;subst h
      obtain⟨b,rfl,h1⟩:=hx.EJ
      refine⟨_,Q7 hu hf hn h0 _ w,?_⟩
      have:(⟨b,off,none⟩:Addr).add fd.offset=⟨b,off+fd.offset,none⟩:=by unfold Addr.add;split<;>simp_all
      rw[this]
      exact .dQ _ _ _ b h1
     ·simp at h
   ·simp at h
  ·simp at h
 ·simp at h
theorem aHk{t:TypeId}{x p:PD}{f:Nat}(h:LK P t x f=some p){vx:Value}(hx:VR c vx x)(w:World):∃v,(Instr.field t vx f).run P w=.ok v w/\VR c v p:=by
 unfold LK at h
 split at h
 ·rename_i fs ds hu
  split at h
  ·rename_i fd hf
   obtain⟨cs,rfl,h1,h2⟩:=hx.xO
   obtain⟨v,r,q⟩:=EU h1 h2 h w
   exact⟨v,by simp[Instr.field,run_underlying hu,hf,asAgg,r],q⟩
  ·simp at h
 ·simp at h
theorem QV(size:Nat):∀(xs:List PD),(∀x∈xs,x.cells.length=size)->∀(i:Nat) (p:PD),xs[i]?=some p->∀j,j<size->(xs.flatMap PD.cells)[i*size+j]?=p.cells[j]?
 | [],_,i,p,h,_,_=>by simp at h
 |x::xs,hx,0,p,h,j,hj=>by
  simp at h;subst h
  have:=hx x (by simp)
  simp[List.flatMap_cons,List.getElem?_append,this,hj]
 |x::xs,hx,i+1,p,h,j,hj=>by
  have hl:=hx x (by simp)
  have r:=QV size xs (fun y hy=>hx y (by simp[hy])) i p (by simpa using h) j hj
  rw[List.flatMap_cons,List.getElem?_append_right (by rw[hl,Nat.add_mul];omega),hl]
  rw[show(i+1)*size+j-size=i*size+j by rw[Nat.add_mul];omega]
  exact r
theorem aHl{t:TypeId}{x i p:PD}(h:lT P t x i=some p){vx vi:Value}(hx:VR c vx x)(hi:VR c vi i)(w:World):∃v,(Instr.indexAt t vx vi).run P w=.ok v w/\VR c v p:=by
 unfold lT at h
 split at h
 ·rename_i m len e hm hu
  obtain⟨k,z,rfl,h0,rfl⟩:=BR hm hi
  split at h
  ·rename_i n hn
   split at h
   ·rename_i hlt
    split at h
    ·rename_i id off
     simp at h;subst h
     obtain⟨b,rfl,h1,h2,h3⟩:=hx.rT
     refine⟨.pointer (some ⟨b,off+z.toNat*n,none⟩),?_,.ptr _ _ b h1 h2 h3⟩
     have:(⟨b,off,none⟩:Addr).add (z.toNat*n)=⟨b,off+z.toNat*n,none⟩:=by unfold Addr.add;split<;>simp_all
     have hz:z<(len:Int):=by omega
     simp[Instr.indexAt,asIntOf,run_underlying hu,Instr.sureAddr,h0,hz,lW hn,this]
    ·rename_i cs off
     simp at h;subst h
     obtain⟨ad,fl,rfl,h1,h2,h3⟩:=hx.ET
     have hz:z<(len:Int):=by omega
     refine⟨.pointer (some (ad.add (off+z.toNat*n))),?_,.eF ad fl cs _ h1.1 h2 h3 h1.2⟩
     simp[Instr.indexAt,asIntOf,run_underlying hu,Instr.sureAddr,h0,hz,lW hn,A9]
    ·rename_i id ver off
     simp at h;subst h
     obtain⟨b,rfl,h1⟩:=hx.EJ
     refine⟨.pointer (some ⟨b,off+z.toNat*n,none⟩),?_,.dQ _ _ _ b h1⟩
     have:(⟨b,off,none⟩:Addr).add (z.toNat*n)=⟨b,off+z.toNat*n,none⟩:=by unfold Addr.add;split<;>simp_all
     have hz:z<(len:Int):=by omega
     simp[Instr.indexAt,asIntOf,run_underlying hu,Instr.sureAddr,h0,hz,lW hn,this]
    ·simp at h
   ·simp at h
  ·simp at h
 ·rename_i m e hm hu
  obtain⟨k,z,rfl,h0,rfl⟩:=BR hm hi
  split at h
  ·rename_i size xs tok n hn
   split at h
   ·rename_i hsz
    obtain⟨hsz,hn0⟩:=hsz
    split at h
    ·rename_i q hq
     simp at h;subst h
     have hsz:n=size:=hsz.resolve_left (fun e=>by rw[yAf e]at hq;simp at hq)
     subst hsz
     obtain⟨A,cap,fl,rfl,h1,h2,h3,h4,h5,h6,h7,h8⟩:=hx.nW
     have hlt:z.toNat<xs.length:=(yA.1 hq).1
     have hz:z<(xs.length:Int):=by omega
     have hql:=h3 q (yBe hq)
     have hin:z.toNat*n<fl.length:=by
      rw[h4]
      exact Nat.mul_lt_mul_of_pos_right hlt hn0
     obtain⟨ad,rfl,_,_⟩:=h6 (z.toNat*n) fl[z.toNat*n] (by simp[hin])
     refine⟨.pointer (some ((ad.add (z.toNat*n)).add 0)),?_,?_⟩
     ·simp[Instr.indexAt,asIntOf,run_underlying hu,h0,hz,lW hn,Addr.add]
     ·have hle:z.toNat*n+n<=fl.length:=by
       rw[h4,<-Nat.succ_mul]
       exact Nat.mul_le_mul_right _ hlt
      refine .eF (ad.add (z.toNat*n)) ((fl.drop (z.toNat*n)).take n) q.cells 0 (by simp[hql];omega) (fun v hv=>h5 v (List.mem_of_mem_drop (yAy hv))) ?_ ?_
      ·intro j v hv
       rw[yAv]at hv
       split at hv
       ·rw[List.getElem?_drop]at hv
        obtain⟨L9,e',h9,h10⟩:=h6 _ v hv
        cases e'
        rw[A9]
        exact⟨h9,h10⟩
       ·simp at hv
      ·intro j v d hv hd
       rw[yAv]at hv
       split at hv
       ·rename_i hj
        rw[List.getElem?_drop]at hv
        exact h7 _ v d hv (by rw[QV n xs h3 _ _ hq j hj];exact hd)
       ·simp at hv
    ·simp at h
   ·simp at h
  ·rename_i id off m' size n hn
   split at h
   ·rename_i hc
    obtain⟨rfl,hlt⟩:=hc
    simp at h;subst h
    obtain⟨b,cap,rfl,h1,h2,h3,_,_⟩:=hx.yW
    refine⟨.pointer (some ⟨b,off+z.toNat*n,none⟩),?_,.ptr _ _ b h1 h2 h3⟩
    have:(⟨b,off,none⟩:Addr).add (z.toNat*n)=⟨b,off+z.toNat*n,none⟩:=by unfold Addr.add;split<;>simp_all
    have hz:z<(m':Int):=by omega
    simp[Instr.indexAt,asIntOf,run_underlying hu,h0,hz,lW hn,this]
   ·simp at h
  ·rename_i id ver off m' size n hn
   split at h
   ·rename_i hc
    obtain⟨rfl,hlt⟩:=hc
    simp at h;subst h
    obtain⟨b,cap,rfl,h1,_,_⟩:=hx.wE
    refine⟨.pointer (some ⟨b,off+z.toNat*n,none⟩),?_,.dQ _ _ _ b ⟨h1.1,fun e sz v' cs hs=>⟨(h1.2 e sz v' cs hs).1,fun hv=>by
     obtain⟨_,C,hr,_⟩:=(h1.2 e sz v' cs hs).2 hv
     exact⟨C,hr⟩⟩⟩⟩
    have:(⟨b,off,none⟩:Addr).add (z.toNat*n)=⟨b,off+z.toNat*n,none⟩:=by unfold Addr.add;split<;>simp_all
    have hz:z<(m':Int):=by omega
    simp[Instr.indexAt,asIntOf,run_underlying hu,h0,hz,lW hn,this]
   ·simp at h
  ·simp at h
 ·simp at h
end
end
section
theorem aAa(s:List UInt8)(l h:Nat):(ByteArray.mk s.toArray).extract l h=⟨((s.drop l).take (h-l)).toArray⟩:=by
 apply ByteArray.ext
 simp[ByteArray.data_extract,List.extract_toArray,List.extract_eq_take_drop]
theorem zB{size:Nat}:∀(xs:List PD),(∀x∈xs,x.cells.length=size)->(xs.flatMap PD.cells).length=xs.length*size
 | [],_=>by simp
 |x::xs,h=>by
  rw[List.flatMap_cons,yAa,h x (by simp),zB xs (fun y hy=>h y (by simp[hy])),List.length_cons,Nat.add_mul]
  omega
theorem aAq{size:Nat}:∀(xs:List PD) (l:Nat),(∀x∈xs,x.cells.length=size)->(xs.drop l).flatMap PD.cells=(xs.flatMap PD.cells).drop (l*size)
 |xs,0,_=>by simp
 | [],l+1,_=>by simp
 |x::xs,l+1,h=>by
  have hx:=h x (by simp)
  have e1:x.cells.drop ((l+1)*size)=[]:=yAs (by rw[hx,Nat.add_mul];omega)
  have e2:(l+1)*size-size=l*size:=by rw[Nat.add_mul];omega
  rw[List.drop_succ_cons,aAq xs l (fun y hy=>h y (by simp[hy])),List.flatMap_cons,List.drop_append,hx,e1,e2,List.nil_append]
theorem QS{size:Nat}:∀(xs:List PD) (k:Nat),(∀x∈xs,x.cells.length=size)->(xs.take k).flatMap PD.cells=(xs.flatMap PD.cells).take (k*size)
 |xs,0,_=>by simp
 | [],k+1,_=>by simp
 |x::xs,k+1,h=>by
  have hx:=h x (by simp)
  have e1:x.cells.take ((k+1)*size)=x.cells:=yAz (by rw[hx,Nat.add_mul];omega)
  have e2:(k+1)*size-size=k*size:=by rw[Nat.add_mul];omega
  rw[List.take_succ_cons,List.flatMap_cons,QS xs k (fun y hy=>h y (by simp[hy])),List.flatMap_cons,List.take_append,hx,e1,e2]
section
variable{P:Program}{c:Cx}
theorem aHm{t:TypeId}{x i p:PD}(h:BD P t x i=some p){vx vi:Value}(hx:VR c vx x)(hi:VR c vi i)(w:World):∃v,(Instr.index t vx vi).run P w=.ok v w/\VR c v p:=by
 unfold BD at h
 split at h
 ·rename_i m len e ds hm hu
  obtain⟨k,z,rfl,h0,rfl⟩:=BR hm hi
  split at h
  ·rename_i n hn
   split at h
   ·rename_i hlt
    obtain⟨cs,rfl,h1,h2⟩:=hx.xO
    obtain⟨v,r,q⟩:=EU h1 h2 h w
    have hz:z<(len:Int):=by omega
    exact⟨v,by simp[Instr.index,asIntOf,run_underlying hu,h0,hz,lW hn,r],q⟩
   ·simp at h
  ·simp at h
 ·rename_i m s hm hu
  obtain⟨k,z,rfl,h0,rfl⟩:=BR hm hi
  split at h
  ·rename_i b hb
   simp only[yAb]at h;subst h
   rw[hx.qA]
   refine⟨.int .u8 b.toNat,?_,.int _ _⟩
   have hlt:z.toNat<s.length:=(yA.1 hb).1
   have:(ByteArray.mk s.toArray)[z.toNat]?=some b:=by
    rw[getElem?_pos _ _ (by simpa [ByteArray.size]using hlt)]
    have hg:s[z.toNat]=b:=(yA.1 hb).2
    simp only[ByteArray.getElem_eq_getElem_data,yAb]
    simpa using hg
   simp[Instr.index,asIntOf,run_underlying hu,h0,this]
  ·simp at h
 ·simp at h
theorem EV{a:Act}{fr:List PD}(hf:FR c a fr){x:Operand}{m:Nat}(h:iQ (bB fr x)=some m):∃k z,a.eval x=.int k z/\0<=z/\z.toNat=m:=by
 cases he:bB fr x with
 |none=>simp[he,iQ]at h
 |some p=>
  rw[he]at h
  exact BR h (dW hf he)
theorem H8{a:Act}{fr:List PD}(hf:FR c a fr){n cap l h:Nat}{lo hi:Option Operand}(hb:lF n (lo.map (bB fr)) (hi.map (bB fr))=some (l,h))(hc:n<=cap)(isS:Bool)(w:World) :
  l<=h/\h<=n/\(Instr.sliceBounds isS n cap (lo.map a.eval) (hi.map a.eval) none).run P w=.ok (l,h,cap) w:=by
 unfold lF at hb
 split at hb
 ·rename_i h' l' h1 h2
  split at hb
  ·rename_i hle
   simp only[yAb,yAc]at hb
   obtain⟨rfl,rfl⟩:=hb
   refine⟨hle.1,hle.2,?_⟩
   cases hi with
   |none=>
    simp at h1
    subst h1
    cases lo with
    |none=>simp at h2;subst h2;simp[Instr.sliceBounds]
    |some lo=>
     obtain⟨k,z,e,h0,rfl⟩:=EV hf (by simpa using h2)
     have hz:z<=(n:Int):=by omega
     simp[Instr.sliceBounds,e,run_sliceBound (P:=P) (w:=w) k z _ _ h0 hz]
   |some hi=>
    obtain⟨k',z',e',h0',rfl⟩:=EV hf (by simpa using h1)
    have rY:z'<=(cap:Int):=by omega
    cases lo with
    |none=>simp at h2;subst h2;simp[Instr.sliceBounds,e',run_sliceBound (P:=P) (w:=w) k' z' _ _ h0' rY]
    |some lo=>
     obtain⟨k,z,e,h0,rfl⟩:=EV hf (by simpa using h2)
     have hz:z<=(z'.toNat:Int):=by omega
     simp[Instr.sliceBounds,e,e',run_sliceBound (P:=P) (w:=w) k' z' _ _ h0' rY,run_sliceBound (P:=P) (w:=w) k z _ _ h0 hz]
  ·simp at hb
 ·simp at hb
theorem aAr{a:Act}{fr:List PD}(hf:FR c a fr){n cap l h m:Nat}{lo:Option Operand}{hi mx:Operand}(hb:lF n (lo.map (bB fr)) ((some hi).map (bB fr))=some (l,h))(hm:iQ (bB fr mx)=some m)
  (h1:h<=m) (h2:m<=n) (hc:n<=cap) (isS:Bool) (w:World) :
  l<=h/\h<=n/\(Instr.sliceBounds isS n cap (lo.map a.eval) (some (a.eval hi)) (some (a.eval mx))).run P w=.ok (l,h,m) w:=by
 obtain⟨km,zm,em,hm0,rfl⟩:=EV hf hm
 unfold lF at hb
 split at hb
 ·rename_i h' l' h3 h4
  split at hb
  ·rename_i hle
   simp only[yAb,yAc]at hb
   obtain⟨rfl,rfl⟩:=hb
   refine⟨hle.1,hle.2,?_⟩
   obtain⟨k',z',e',h0',rfl⟩:=EV hf (by simpa using h3)
   have hzm:zm<=(cap:Int):=by omega
   have rY:z'<=(zm.toNat:Int):=by omega
   cases lo with
   |none=>simp at h4;subst h4;simp[Instr.sliceBounds,e',em,run_sliceBound (P:=P) (w:=w) km zm _ _ hm0 hzm,run_sliceBound (P:=P) (w:=w) k' z' _ _ h0' rY]
   |some lo=>
    obtain⟨k,z,e,h0,rfl⟩:=EV hf (by simpa using h4)
    have xP:z<=(z'.toNat:Int):=by omega
    simp[Instr.sliceBounds,e,e',em,run_sliceBound (P:=P) (w:=w) km zm _ _ hm0 hzm,run_sliceBound (P:=P) (w:=w) k' z' _ _ h0' rY,run_sliceBound (P:=P) (w:=w) k z _ _ h0 xP]
  ·simp at hb
 ·simp at hb
theorem aAs{A:Option Addr}{cap size n l h m:Nat}{xs:List PD}{fl:List Value}{tok:Tok}(hn:xs.length=0\/n=size)(hlh:l<=h)(hhx:h<=xs.length)(hhm:h<=m)(hmc:m<=cap)(hcm:cap<=maxLen)
  (h3:∀x∈xs,x.cells.length=size) (h4:fl.length=xs.length*size) (h5:∀v∈fl,v.oneCell'=true)
  (h6:∀(j:Nat) (v:Value),fl[j]?=some v->∃ad,A=some ad/\c.w.cell? (ad.add j)=some v/\c.av (ad.add j))
  (h7:∀(j:Nat) (v:Value) (d:PD),fl[j]?=some v->(xs.flatMap PD.cells)[j]?=some d->VR c v d)
  (ht:qB c size (h-l) (m-l) (.slice (if m=l then A else A.map (·.add (l*n))) (h-l) (m-l)) tok) :
  VR c (.slice (if m=l then A else A.map (·.add (l*n))) (h-l) (m-l)) (.slice size ((xs.drop l).take (h-l)) tok):=by
 have hxs:∀x∈(xs.drop l).take (h-l),x.cells.length=size:=fun x hx=>h3 x (List.mem_of_mem_drop (yAy hx))
 have hlen:((xs.drop l).take (h-l)).length=h-l:=by simp;omega
 have hdl:∀x∈xs.drop l,x.cells.length=size:=fun x hx=>h3 x (List.mem_of_mem_drop hx)
 have hfl:((fl.drop (l*size)).take ((h-l)*size)).length=(h-l)*size:=by
  have:l*size+(h-l)*size<=fl.length:=by
   rw[h4,<-Nat.add_mul];exact Nat.mul_le_mul_right _ (by omega)
  simp;omega
 refine .slice _ _ _ size _ tok ((fl.drop (l*size)).take ((h-l)*size)) hlen.symm (by omega) (by omega) hxs hfl
  (fun v hv=>h5 v (List.mem_of_mem_drop (yAy hv))) ?_ ?_ ht
 ·intro j v hv
  have hj:j<(h-l)*size:=by rw[<-hfl];exact(yA.1 hv).1
  rw[yAv,if_pos hj,List.getElem?_drop]at hv
  obtain⟨ad,rfl,h9,h10⟩:=h6 _ v hv
  have hpos:0<h-l:=by
   rcases Nat.eq_zero_or_pos (h-l)with e|e
   ·rw[e]at hj;simp at hj
   ·exact e
  have hne:¬m=l:=by omega
  have hns:n=size:=hn.resolve_left (by omega)
  subst hns
  rw[if_neg hne]
  exact⟨_,rfl,by rw[A9];exact h9,by rw[A9];exact h10⟩
 ·intro j v d hv hd
  have hj:j<(h-l)*size:=by rw[<-hfl];exact(yA.1 hv).1
  rw[yAv,if_pos hj,List.getElem?_drop]at hv
  rw[QS _ _ hdl,aAq _ _ h3,yAv,if_pos hj,List.getElem?_drop]at hd
  exact h7 _ v d hv hd
theorem aHi{a:Act}{fr:List PD}(hf:FR c a fr){t:TypeId}{x p:PD}{lo hi mx:Option Operand}
  (h:pZ P t x (lo.map (bB fr)) (hi.map (bB fr)) (mx.map (bB fr))=some p) {vx:Value} (hx:VR c vx x) (w:World) :
  ∃v,(Instr.sliceAt t vx (lo.map a.eval) (hi.map a.eval) (mx.map a.eval)).run P w=.ok v w/\VR c v p:=by
 unfold pZ at h
 split at h
 ·rename_i s hu
  split at h
  ·simp at h
  ·rename_i hmx
   have xQ:mx=none:=by cases mx<;>simp_all
   subst xQ
   split at h
   ·rename_i l hh hb
    simp only[yAb]at h;subst h
    rw[hx.qA]
    have hz:(ByteArray.mk s.toArray).size=s.length:=MH s
    obtain⟨h1,h2,h3⟩:=H8 (P:=P) hf hb (yAk _) false w
    refine⟨.string ⟨((s.drop l).take (hh-l)).toArray⟩,?_,.str _⟩
    simp[Instr.sliceAt,Instr.slice,run_underlying hu,hz,h3,aAa]
   ·simp at h
 ·rename_i e size xs tok hu
  split at h
  ·rename_i n l hh hn hb
   split at h
   ·rename_i hsz
    obtain⟨A,cap,fl,rfl,h1,h2,h3,h4,h5,h6,h7,h8⟩:=hx.nW
    split at h
    ·
     rename_i hmx
     have xQ:mx=none:=by cases mx<;>simp_all
     subst xQ
     simp only[yAb]at h;subst h
     obtain⟨b1,b2,b3⟩:=H8 (P:=P) hf hb h1 true w
     refine⟨_,?_,aAs (n:=n) (m:=cap) hsz b1 b2 (by omega) (yAk _) h2 h3 h4 h5 h6 h7 ?_⟩
     ·simp[Instr.sliceAt,Instr.slice,run_underlying hu,b3,lW hn]
     ·by_cases hhe:hh=xs.length
      ·rw[if_pos hhe]
       cases tok with
       |any=>trivial
       |full=>simp only[qB]at h8 ⊢;omega
       |nil=>trivial
       |pE=>trivial
       |qY=>trivial
       |own id=>
        by_cases hl0:l=0
        ·subst hl0
         simp only[↓reduceIte]
         have:(if cap=0 then A else A.map (·.add (0*n)))=A:=by
          split
          ·rfl
          ·cases A<;>simp[Addr.add]
         rw[this,hhe]
         simpa using h8
        ·simp only[hl0,if_false];trivial
      ·rw[if_neg hhe];trivial
    ·rename_i m hmx
     split at h
     ·rename_i MI m' hhi hm
      split at h
      ·rename_i hle
       simp only[yAb]at h;subst h
       cases mx with
       |none=>simp at hmx
       |some mx=>
        cases hi with
        |none=>simp at hhi
        |some hi=>
         simp at hmx
         subst hmx
         obtain⟨b1,b2,b3⟩:=aAr (P:=P) hf hb hm hle.1 hle.2 h1 true w
         refine⟨_,?_,aAs (n:=n) (m:=m') hsz b1 b2 hle.1 (by omega) h2 h3 h4 h5 h6 h7 ?_⟩
         ·simp[Instr.sliceAt,Instr.slice,run_underlying hu,b3,lW hn]
         ·by_cases hme:m'=hh
          ·rw[if_pos hme];simp only[qB];omega
          ·rw[if_neg hme];trivial
      ·simp at h
     ·simp at h
   ·simp at h
  ·simp at h
 ·rename_i e id off m size hu
  split at h
  ·rename_i n l hh hn hb hmx
   split at h
   ·rename_i hc
    obtain⟨rfl,hl⟩:=hc
    simp only[yAb]at h;subst h
    obtain⟨b,cap,rfl,hd,hp,hr,h1,h2⟩:=hx.yW
    have xQ:mx=none:=by cases mx<;>simp_all
    subst xQ
    obtain⟨b1,b2,b3⟩:=H8 (P:=P) hf hb h1 true w
    refine⟨.slice (some ⟨b,off+l*n,none⟩) (hh-l) (cap-l),?_,.dE _ _ _ _ _ b hd hp hr (by omega) (by omega)⟩
    have:(if cap=l then(some ⟨b,off,none⟩:Option Addr)else(some ⟨b,off,none⟩:Option Addr).map (·.add (l*n)))=some ⟨b,off+l*n,none⟩:=by
     split
     ·have:l=0:=by omega
      subst this
      simp
     ·simp[Addr.add]
    simp only[Instr.sliceAt,Instr.slice,Sem.run_bind,run_underlying hu,Result.andThen_ok,Option.map_none,b3,lW hn,Sem.run_pure,this]
   ·simp at h
  ·simp at h
 ·rename_i e id ver off m size hu
  split at h
  ·rename_i n l hh hn hb
   split at h
   ·rename_i hc
    subst hc
    obtain⟨b,cap,rfl,hp,h1,h2⟩:=hx.wE
    split at h
    ·rename_i hmx
     have xQ:mx=none:=by cases mx<;>simp_all
     subst xQ
     obtain⟨b1,b2,b3⟩:=H8 (P:=P) hf hb h1 true w
     split at h
     ·rename_i hl
      simp only[yAb]at h;subst h
      refine⟨.slice (some ⟨b,off+l*n,none⟩) (hh-l) (cap-l),?_,.aF _ _ _ _ _ _ b ⟨hp.1,fun e sz v' cs hs=>⟨(hp.2 e sz v' cs hs).1,fun hv=>?_⟩⟩ (by omega) (by omega)⟩
      ·have:(if cap=l then(some ⟨b,off,none⟩:Option Addr)else(some ⟨b,off,none⟩:Option Addr).map (·.add (l*n)))=some ⟨b,off+l*n,none⟩:=by
        split
        ·have:l=0:=by omega
         subst this
         simp
        ·simp[Addr.add]
       simp only[Instr.sliceAt,Instr.slice,Sem.run_bind,run_underlying hu,Result.andThen_ok,Option.map_none,b3,lW hn,Sem.run_pure,this]
      ·obtain⟨q1,C,q2,q3⟩:=(hp.2 e sz v' cs hs).2 hv
       refine⟨q1,C,q2,?_⟩
       rw[<-q3,Nat.sub_mul,Nat.add_assoc]
       congr 1
       have:l*n<=cap*n:=Nat.mul_le_mul_right _ (by omega)
       omega
     ·rename_i hl
      simp only[yAb]at h;subst h
      have hlh:hh-l=0:=by omega
      refine⟨.slice (if cap=l then(some ⟨b,off,none⟩:Option Addr)else(some ⟨b,off,none⟩:Option Addr).map (·.add (l*n))) (hh-l) (cap-l),?_,?_⟩
      ·simp only[Instr.sliceAt,Instr.slice,Sem.run_bind,run_underlying hu,Result.andThen_ok,Option.map_none,b3,lW hn,Sem.run_pure]
      ·rw[hlh]
       exact .slice _ 0 _ n [] .any [] rfl (yBf _) (by omega) (by simp) (by simp) (by simp) (by simp) (by simp) trivial
    ·rename_i mv hmx
     split at h
     ·rename_i MI k hhi hk
      split at h
      ·rename_i hc
       obtain⟨rfl,rfl⟩:=hc
       simp only[yAb]at h;subst h
       cases mx with
       |none=>simp at hmx
       |some mx=>
        cases hi with
        |none=>simp at hhi
        |some hi=>
         simp at hmx
         subst hmx
         have hlm:l<=m:=by
          unfold lF at hb
          split at hb
          ·split at hb
           ·simp only[yAb,yAc]at hb;omega
           ·cases hb
          ·cases hb
         obtain⟨b1,b2,b3⟩:=aAr (P:=P) hf hb hk (yAk _) hlm h1 true w
         refine⟨.slice (some ⟨b,off,none⟩) (l-l) (l-l),?_,?_⟩
         ·simp[Instr.sliceAt,Instr.slice,run_underlying hu,b3,lW hn]
         ·rw[Nat.sub_self]
          exact .slice _ 0 0 n [] .full [] rfl (yBf _) (yBf _) (by simp) (by simp) (by simp) (by simp) (by simp) rfl
      ·simp at h
     ·simp at h
   ·simp at h
  ·simp at h
 ·rename_i len e id off hu
  split at h
  ·rename_i n l hh hn hb hmx
   split at h
   ·rename_i hc
    obtain⟨hlen,hl⟩:=hc
    simp only[yAb]at h;subst h
    obtain⟨b,rfl,hd,hp,hr⟩:=hx.rT
    have xQ:mx=none:=by cases mx<;>simp_all
    subst xQ
    obtain⟨b1,b2,b3⟩:=H8 (P:=P) hf hb (yAk _) false w
    have hml:len<=maxLen:=Nat.le_trans hlen (by unfold maxLen;decide)
    refine⟨.slice (some ⟨b,off+l*n,none⟩) (hh-l) (len-l),?_,.dE _ _ _ _ _ b hd hp hr (by omega) (by omega)⟩
    have:(if len=l then(⟨b,off,none⟩:Addr)else(⟨b,off,none⟩:Addr).add (l*n))=⟨b,off+l*n,none⟩:=by
     split
     ·have:l=0:=by omega
      subst this
      simp
     ·simp[Addr.add]
    simp[Instr.sliceAt,Instr.sureAddr,run_underlying hu,b3,lW hn,this]
   ·simp at h
  ·simp at h
 ·simp at h
end
end
section
section
variable{P:Program}{c:Cx}
theorem aAo(off:Nat):∀(l:List Value) (k:Nat) (cells:Array Value),off+k+l.length<=cells.size ->
  ((l.zipIdx k).foldl (fun(cs:Array Value) (x:Value×Nat)=>cs.setIfInBounds (off+x.2) x.1) cells).toList=cells.toList.take (off+k)++l++cells.toList.drop (off+k+l.length)
 | [],k,cells,_=>by simp
 |v::l,k,cells,h=>by
  simp only[List.length_cons]at h
  rw[List.zipIdx_cons,List.foldl_cons,aAo off l (k+1) _ (by simp;omega)]
  simp only[Array.toList_setIfInBounds,List.length_cons]
  have e1:(cells.toList.set (off+k) v).take (off+(k+1))=cells.toList.take (off+k)++[v]:=by
   have hlt:off+k<cells.toList.length:=by simp;omega
   rw[show off+(k+1)=(off+k)+1 by omega,List.take_succ_eq_append_getElem (by simpa using hlt)]
   congr 1
   ·rw[List.take_set]
    rw[List.set_eq_of_length_le (by simp;omega)]
   ·simp
  have e2:(cells.toList.set (off+k) v).drop (off+(k+1)+l.length)=cells.toList.drop (off+k+(l.length+1)):=by
   rw[List.drop_set_of_lt (by omega)]
   congr 1
   omega
  rw[e1,e2]
  simp
theorem Q5{cells:List Value}{z:List PD}(hz:aQ c cells z){v:Value}{p:PD}(hv:VR c v p)(off:Nat)(hle:off+p.cells.length<=z.length) :
  aQ c (cells.take off++v.cells.toList++cells.drop (off+v.cells.toList.length)) (cX z off p.cells):=by
 have hc:=hv.cells
 have hl:v.cells.toList.length=p.cells.length:=hc.1
 have h0:cells.length=z.length:=hz.1
 refine⟨by simp[cX,hl,h0],fun i u d hu hd=>?_⟩
 unfold cX at hd
 rw[yAi]at hu hd
 rw[List.getElem?_append]at hu hd
 simp only[yAt]at hu hd
 by_cases h1:i<min off cells.length
 ·rw[if_pos h1]at hu
  rw[if_pos (by omega)]at hd
  rw[yAv,if_pos (by omega)]at hu hd
  exact hz.2 i u d hu hd
 ·rw[if_neg h1]at hu
  rw[if_neg (by omega)]at hd
  rw[List.getElem?_append]at hu hd
  have hm:min off cells.length=off:=by omega
  have hm':min off z.length=off:=by omega
  rw[hm]at hu;rw[hm']at hd
  by_cases h2:i-off<p.cells.length
  ·rw[if_pos (by omega)]at hu
   rw[if_pos h2]at hd
   exact hc.2 _ u d hu hd
  ·rw[if_neg (by omega)]at hu
   rw[if_neg h2]at hd
   rw[List.getElem?_drop]at hu hd
   rw[hl]at hu
   exact hz.2 _ u d hu hd
theorem HU{cells:List Value}(h:∀v∈cells,v.oneCell'=true){new:List Value}(hn:∀v∈new,v.oneCell'=true)(off n:Nat):∀v∈cells.take off++new++cells.drop n,v.oneCell'=true:=by
 intro v hv
 simp only[List.mem_append]at hv
 rcases hv with(h1|h1)|h1
 ·exact h v (yAy h1)
 ·exact hn v h1
 ·exact h v (List.mem_of_mem_drop h1)
theorem MD{place:Nat->Option (Nat×Nat)}:∀(parts:List (Nat×PD)) (vparts:List (Nat×Value)) (z:List PD) (cells:Array Value) (cs:List PD),
  vparts.length=parts.length->(∀(i:Nat) (jv:Nat×Value) (jp:Nat×PD),vparts[i]?=some jv->parts[i]?=some jp->jv.1=jp.1/\VR c jv.2 jp.2) ->
  aQ c cells.toList z->(∀v∈cells.toList,v.oneCell'=true)->v8 place z parts=some cs ->
  ∃cells',Instr.fill place cells vparts=some cells'/\aQ c cells'.toList cs/\∀v∈cells'.toList,v.oneCell'=true
 | [],[],z,cells,cs,_,_,hz,h1,h=>by simp[v8]at h;subst h;exact⟨cells,rfl,hz,h1⟩
 | [],_::_,_,_,_,hl,_,_,_,_=>by simp at hl
 |_::_,[],_,_,_,hl,_,_,_,_=>by simp at hl
 |(i,p)::parts,(i',v)::vparts,z,cells,cs,hl,hp,hz,h1,h=>by
  obtain⟨e,hv⟩:=hp 0 (i',v) (i,p) rfl rfl
  simp only at e hv
  subst e
  unfold v8 at h
  unfold Instr.fill
  cases hpl:place i' with
  |none=>simp[hpl]at h
  |some on=>
   obtain⟨off,n⟩:=on
   simp only[hpl]at h ⊢
   have hcl:v.cells.size=p.cells.length:=by have:=hv.cells.1;simpa using this
   have hzl:cells.size=z.length:=by have:=hz.1;simpa using this
   split at h
   ·simp at h
   ·rename_i hn
    have iO:¬p.cells.length≠n:=fun q=>hn (.inl q)
    have hn2:¬off+p.cells.length > z.length:=fun q=>hn (.inr (.inl q))
    have hn3:p.cells.all PD.plain=true:=by
     cases hq:p.cells.all PD.plain with
     |true=>rfl
     |false=>exact(hn (.inr (.inr hq))).elim
    have nY:=aQ.uL hv.cells hn3
    have hcond:¬(decide (v.cells.size≠n)||decide (off+v.cells.size > cells.size))=true:=by
     rw[hcl,hzl]
     simp only[Bool.or_eq_true,decide_eq_true_eq]
     rintro(q|q)
     ·exact iO q
     ·exact hn2 q
    rw[if_neg hcond]
    have hle:off+p.cells.length<=z.length:=by omega
    have hfold:(v.cells.zipIdx.foldl (fun cs (c,j)=>cs.setIfInBounds (off+j) c) cells).toList=cells.toList.take off++v.cells.toList++cells.toList.drop (off+v.cells.toList.length):=by
     rw[<-Array.foldl_toList,Array.toList_zipIdx]
     have:=aAo off v.cells.toList 0 cells (by simp;omega)
     simpa using this
    refine MD parts vparts _ _ cs (by simpa using hl) (fun i jv jp a b=>hp (i+1) jv jp (by simpa using a) (by simpa using b)) ?_ ?_ h
    ·rw[hfold];exact Q5 hz hv off hle
    ·rw[hfold];exact HU h1 nY off _
theorem yY{t:TypeId}{p:PD}(h:eE P t=some p):∃v i,P.info? t=some i/\i.zero=some v/\VR c v p:=by
 unfold eE at h
 split at h
 ·rename_i i hi
  split at h
  ·rename_i z hz
   exact⟨z,i,hi,hz,Q4 h⟩
  ·simp at h
 ·simp at h
theorem aAp:∀ {fs:List Field} {pl:List (Nat×Nat)},EC P fs=some pl->fs.mapM (fun f=>(P.info? f.type).map fun i=>(f.offset,i.size))=some pl
 | [],pl,h=>by simp[EC]at h;subst h;rfl
 |f::fs,pl,h=>by
  unfold EC at h
  split at h
  ·rename_i n ps hn hp
   simp only[yAb]at h;subst h
   obtain⟨i,hi,hs⟩:=MC hn
   simp[List.mapM_cons,aAp hp,hi,hs]
  ·simp at h
theorem aHo{t:TypeId}{parts:List (Nat×PD)}{vparts:List (Nat×Value)}{p:PD}(h:D9 P t parts=some p)(hl:vparts.length=parts.length)
  (hp:∀(i:Nat) (jv:Nat×Value) (jp:Nat×PD),vparts[i]?=some jv->parts[i]?=some jp->jv.1=jp.1/\VR c jv.2 jp.2) (w:World) :
  ∃v,(Instr.build t vparts.toArray).run P w=.ok v w/\VR c v p:=by
 unfold D9 at h
 split at h
 ·rename_i z hz
  obtain⟨zv,i,hi,hzv,hzr⟩:=yY (c:=c) hz
  obtain⟨cs,rfl,hcs,dT⟩:=hzr.xO
  split at h
  ·rename_i fs hu
   split at h
   ·rename_i pl hpl
    split at h
    ·rename_i out ho
     simp only[yAb]at h;subst h
     obtain⟨cells',h1,h2,h3⟩:=MD parts vparts z cs.toArray out hl hp (by simpa using hcs) (by simpa using dT) ho
     refine⟨.agg cells',run_build w t _ cells' ?_,?_⟩
     ·simp only[Program.built,hi,hu,hzv,aAp hpl,Value.cells]
      simpa using h1
     ·have:=VR.agg (c:=c) cells'.toList out h2.1 h3 h2.2
      simpa using this
    ·simp at h
   ·simp at h
  ·rename_i k e hu
   split at h
   ·rename_i n hn
    split at h
    ·rename_i out ho
     simp only[yAb]at h;subst h
     obtain⟨cells',h1,h2,h3⟩:=MD parts vparts z cs.toArray out hl hp (by simpa using hcs) (by simpa using dT) ho
     obtain⟨ie,hie,hsz⟩:=MC hn
     subst hsz
     refine⟨.agg cells',run_build w t _ cells' ?_,?_⟩
     ·simp only[Program.built,hi,hu,hzv,hie,Value.cells]
      simpa using h1
     ·have:=VR.agg (c:=c) cells'.toList out h2.1 h3 h2.2
      simpa using this
    ·simp at h
   ·simp at h
  ·simp at h
 ·simp at h
theorem L6{a:Act}{fr:List PD}(hf:FR c a fr):∀ {parts:List (Nat×Operand)} {ps:List (Nat×PD)},o5 fr parts=some ps ->
  (parts.map fun q=>(q.1,a.eval q.2)).length=ps.length/\∀(i:Nat) (jv:Nat×Value) (jp:Nat×PD),(parts.map fun q=>(q.1,a.eval q.2))[i]?=some jv->ps[i]?=some jp->jv.1=jp.1/\VR c jv.2 jp.2
 | [],ps,h=>by simp[o5]at h;subst h;simp
 |(j,x)::parts,ps,h=>by
  unfold o5 at h
  split at h
  ·rename_i p qs h1 h2
   simp only[yAb]at h;subst h
   obtain⟨a1,a2⟩:=L6 hf h2
   refine⟨by simpa using a1,fun i jv jp hv hp=>?_⟩
   cases i with
   |zero=>simp at hv hp;subst hv;subst hp;exact⟨rfl,dW hf h1⟩
   |succ i=>exact a2 i jv jp (by simpa using hv) (by simpa using hp)
  ·simp at h
theorem Q6(lt:Bool)(w:World):∀(vs:List Value) (x:PD) (r:List PD) (p:PD) (vx:Value),BJ lt x r=some p->VR c vx x->aQ c vs r ->
  ∃v,((vs.foldlM (if lt then Builtin.min2 else Builtin.max2) vx).run P w=.ok v w)/\VR c v p
 | [],x,[],p,vx,h,hx,_=>by
   unfold BJ at h
   split at h
   ·simp only[yAb]at h;subst h;exact⟨vx,by simp,hx⟩
   ·rename_i e;simp at e
   ·simp at h
 | [],_,_::_,_,_,_,_,hl=>by have:=hl.1;simp at this
 |_::_,_,[],_,_,_,_,hl=>by have:=hl.1;simp at this
 |v::vs,x,y::r,p,vx,h,hx,hl=>by
  unfold BJ at h
  split at h
  ·rename_i e;simp at e
  ·rename_i k z k' z' r' e
   simp at e
   obtain⟨e1,e2⟩:=e
   subst e1;subst e2
   have hv:=hl.2 0 v _ rfl rfl
   have h0:=hx.nV
   have h1:=hv.nV
   subst h0;subst h1
   have htl:aQ c vs r:=⟨by have:=hl.1;simpa using this,fun i u d a b=>hl.2 (i+1) u d (by simpa using a) (by simpa using b)⟩
   obtain⟨v,q1,q2⟩:=Q6 lt w vs _ r p _ h (VR.int _ _) htl
   refine⟨v,?_,q2⟩
   cases lt<;>simpa [List.foldlM_cons,Builtin.min2,Builtin.max2]using q1
  ·simp at h
theorem aHp{b:Builtin}{ts:Array TypeId}{args:List PD}{vargs:List Value}{p:PD}(h:uJ P b ts args=some p)(ha:aQ c vargs args)(ty:TypeId)(cs:Array Bool)(w:World) :
  ∃v,(builtin b ts ty cs vargs.toArray).run P w=.ok (.value v) w/\VR c v p:=by
 unfold uJ at h
 split at h
 ·split at h
  ·rename_i t ht
   split at h
   ·rename_i s r hu
    simp only[yAb]at h;subst h
    obtain⟨v,hv,hr⟩:=ha.get (i:=0) (d:=.str s) rfl
    rw[hr.qA]at hv
    refine⟨.int .i64 s.length,?_,.int _ _⟩
    simp[builtin,Builtin.len_,ht,hv,run_underlying hu,goInt,MH]
   ·rename_i n e p0 r hu
    simp only[yAb]at h;subst h
    obtain⟨v,hv,hr⟩:=ha.get (i:=0) (d:=p0) rfl
    refine⟨.int .i64 n,?_,.int _ _⟩
    simp[builtin,Builtin.len_,ht,hv,run_underlying hu,goInt]
   ·rename_i e sz xs tok r hu
    simp only[yAb]at h;subst h
    obtain⟨v,hv,hr⟩:=ha.get (i:=0) (d:=.slice sz xs tok) rfl
    obtain⟨A,cap,fl,rfl,_⟩:=hr.nW
    refine⟨.int .i64 xs.length,?_,.int _ _⟩
    simp[builtin,Builtin.len_,ht,hv,run_underlying hu,goInt]
   ·rename_i e id off n size r hu
    simp only[yAb]at h;subst h
    obtain⟨v,hv,hr⟩:=ha.get (i:=0) (d:=.dE id off n size) rfl
    obtain⟨b,cap,rfl,_⟩:=hr.yW
    refine⟨.int .i64 n,?_,.int _ _⟩
    simp[builtin,Builtin.len_,ht,hv,run_underlying hu,goInt]
   ·rename_i e id ver off n size r hu
    simp only[yAb]at h;subst h
    obtain⟨v,hv,hr⟩:=ha.get (i:=0) (d:=.aF id ver off n size) rfl
    obtain⟨b,cap,rfl,_⟩:=hr.wE
    refine⟨.int .i64 n,?_,.int _ _⟩
    simp[builtin,Builtin.len_,ht,hv,run_underlying hu,goInt]
   ·simp at h
  ·simp at h
 ·split at h
  ·rename_i x r
   cases vargs with
   |nil=>have:=ha.1;simp at this
   |cons v vs=>
    have htl:aQ c vs r:=⟨by have:=ha.1;simpa using this,fun i u d a b=>ha.2 (i+1) u d (by simpa using a) (by simpa using b)⟩
    obtain⟨v',q1,q2⟩:=Q6 (P:=P) true w vs x r p v h (ha.2 0 v x rfl rfl) htl
    exact⟨v',by simp at q1;simp[builtin,Builtin.min_,q1],q2⟩
  ·simp at h
 ·split at h
  ·rename_i x r
   cases vargs with
   |nil=>have:=ha.1;simp at this
   |cons v vs=>
    have htl:aQ c vs r:=⟨by have:=ha.1;simpa using this,fun i u d a b=>ha.2 (i+1) u d (by simpa using a) (by simpa using b)⟩
    obtain⟨v',q1,q2⟩:=Q6 (P:=P) false w vs x r p v h (ha.2 0 v x rfl rfl) htl
    exact⟨v',by simp at q1;simp[builtin,Builtin.max_,q1],q2⟩
  ·simp at h
 ·split at h
  ·rename_i t ht
   split at h
   ·rename_i e sz xs r hu
    simp only[yAb]at h;subst h
    obtain⟨v,hv,hr⟩:=ha.get (i:=0) (d:=.slice sz xs .full) rfl
    obtain⟨A,cap,fl,rfl,a1,a2,a3,a4,a5,a6,a7,a8⟩:=hr.nW
    have hc:xs.length=cap:=by simp only[qB]at a8;omega
    refine⟨.int .i64 xs.length,?_,.int _ _⟩
    simp[builtin,Builtin.cap_,ht,hv,run_underlying hu,goInt,hc]
   ·simp at h
  ·simp at h
 ·simp at h
end
end
section
section
variable{P:Program}{c:Cx}
theorem aQ.append{c:Cx}{a b:List Value}{x y:List PD}(h:aQ c a x)(k:aQ c b y):aQ c (a++b) (x++y):=by
 refine⟨by simp[h.1,k.1],fun i v d hv hd=>?_⟩
 rw[List.getElem?_append]at hv hd
 by_cases h1:i<a.length
 ·rw[if_pos h1]at hv;rw[if_pos (by rw[<-h.1];exact h1)]at hd;exact h.2 i v d hv hd
 ·rw[if_neg h1]at hv;rw[if_neg (by rw[<-h.1];exact h1)]at hd;rw[<-h.1]at hd;exact k.2 _ v d hv hd
theorem aGO{a:Act}{fr:List PD}(hf:FR c a fr){o:Oper}{p:PD}(h:eP P fr o.op=some p)(w:World) :
  ∃v,(execOp a.eval o).run P w=.ok (.value v) w/\VR c v p:=by
 obtain⟨dst,op,ty,pos,after,guard⟩:=o
 simp only at h
 unfold eP at h
 split at h
 ·exact⟨_,by simp[execOp],dW hf h⟩
 ·exact⟨_,by simp[execOp],dW hf h⟩
 ·rename_i x y z
  split at h
  ·rename_i hx
   have e:=(dW hf hx).xD
   exact⟨_,by simp[execOp,e,asBool],dW hf h⟩
  ·rename_i hx
   have e:=(dW hf hx).xD
   exact⟨_,by simp[execOp,e,asBool],dW hf h⟩
  ·simp at h
 ·rename_i bop t x y yt
  split at h
  ·rename_i pa pb h1 h2
   have hc:∃v,(do eqGuard bop t x y (a.eval x) (a.eval y);binOp bop t (a.eval x) (a.eval y):Sem Value).run P w=.ok v w/\VR c v p:=by
    split at h
    ·rename_i r hr
     simp only[yAb]at h
     subst h
     exact aHe hr (dW hf h1) (dW hf h2) w x y
    ·exact aHf h (dW hf h1) w x
   obtain⟨v,r,q⟩:=hc
   refine⟨v,?_,q⟩
   have e:execOp a.eval ⟨dst,.binOp bop t x y yt,ty,pos,after,guard⟩=((do eqGuard bop t x y (a.eval x) (a.eval y);binOp bop t (a.eval x) (a.eval y):Sem Value) >>= fun z=>pure (.value z)):=rfl
   rw[e,Sem.run_bind,r]
   rfl
  ·simp at h
 ·rename_i uop t x
  split at h
  ·rename_i pa h1
   obtain⟨v,r,q⟩:=aHg (P:=P) h (dW hf h1) w
   exact⟨v,by simp[execOp,r],q⟩
  ·simp at h
 ·rename_i s d x
  split at h
  ·simp at h
  ·split at h
   ·rename_i pa h1
    obtain⟨v,r,q⟩:=aHh h (dW hf h1) w
    exact⟨v,by simp[execOp,r],q⟩
   ·simp at h
 ·rename_i f first captured
  split at h
  ·rename_i h0
   split at h
   ·rename_i ps hps
    simp only[yAb]at h;subst h
    have hv:=qX hf hps
    have e:first=#[]:=Array.eq_empty_of_size_eq_zero h0
    subst e
    refine⟨.func (.func f) #[] (captured.toList.map a.eval).toArray,?_,.func f _ ps hv.1 hv.2⟩
    have e2:captured.map a.eval=(captured.toList.map a.eval).toArray:=by apply Array.ext';simp
    simp[execOp,Instr.makeFunc,e2]
   ·simp at h
  ·split at h
   ·rename_i h0
    split at h
    ·rename_i ps hps
     simp only[yAb]at h;subst h
     have hv:=qX hf hps
     have e:captured=#[]:=Array.eq_empty_of_size_eq_zero h0
     subst e
     refine⟨.func (.func f) (first.toList.map a.eval).toArray #[],?_,.dA f _ ps hv.1 hv.2⟩
     have e2:first.map a.eval=(first.toList.map a.eval).toArray:=by apply Array.ext';simp
     simp[execOp,Instr.makeFunc,e2]
    ·simp at h
   ·simp at h
 ·rename_i t x lo hi mx
  split at h
  ·rename_i pa h1
   obtain⟨v,r,q⟩:=aHi hf h (dW hf h1) w
   exact⟨v,by simp[execOp,r],q⟩
  ·simp at h
 ·rename_i s x f
  split at h
  ·rename_i pa h1
   obtain⟨v,r,q⟩:=aHj h (dW hf h1) w
   exact⟨v,by simp[execOp,r],q⟩
  ·simp at h
 ·rename_i t x f
  split at h
  ·rename_i pa h1
   obtain⟨v,r,q⟩:=aHk h (dW hf h1) w
   exact⟨v,by simp[execOp,r],q⟩
  ·simp at h
 ·rename_i t x i
  split at h
  ·rename_i pa pb h1 h2
   obtain⟨v,r,q⟩:=aHl h (dW hf h1) (dW hf h2) w
   exact⟨v,by simp[execOp,r],q⟩
  ·simp at h
 ·rename_i t x i
  split at h
  ·rename_i pa pb h1 h2
   obtain⟨v,r,q⟩:=aHm h (dW hf h1) (dW hf h2) w
   exact⟨v,by simp[execOp,r],q⟩
  ·simp at h
 ·rename_i x i
  split at h
  ·rename_i vs h1
   obtain⟨cs,e,hcs⟩:=(dW hf h1).aHn
   obtain⟨v,hv,q⟩:=hcs.get h
   exact⟨v,by simp[execOp,e,Instr.extract,hv],q⟩
  ·simp at h
 ·rename_i x
  split at h
  ·rename_i id off h1
   simp only[yAb]at h;subst h
   have hv:=dW hf h1
   obtain⟨b,e,_⟩:=hv.rT
   exact⟨.pointer (some ⟨b,off,none⟩),by simp[execOp,e],by rw[<-e];exact hv⟩
  ·rename_i cs off h1
   simp only[yAb]at h;subst h
   have hv:=dW hf h1
   obtain⟨ad,fl,e,_⟩:=hv.ET
   exact⟨.pointer (some (ad.add off)),by simp[execOp,e],by rw[<-e];exact hv⟩
  ·rename_i id ver off h1
   simp only[yAb]at h;subst h
   have hv:=dW hf h1
   obtain⟨b,e,_⟩:=hv.EJ
   exact⟨.pointer (some ⟨b,off,none⟩),by simp[execOp,e],by rw[<-e];exact hv⟩
  ·simp at h
 ·rename_i t parts
  split at h
  ·rename_i ps h1
   obtain⟨a1,a2⟩:=L6 hf h1
   obtain⟨v,r,q⟩:=aHo h a1 a2 w
   refine⟨v,?_,q⟩
   have e:(parts.map fun(x:Nat×Operand)=>(x.1,a.eval x.2))=(parts.toList.map fun q=>(q.1,a.eval q.2)).toArray:=by apply Array.ext';simp
   simp only[execOp,Sem.run_bind]
   rw[show(Array.map (fun x=>match x with|(i,x)=>(i,a.eval x)) parts)=(parts.toList.map fun q=>(q.1,a.eval q.2)).toArray from by simpa using e,r]
   simp
  ·simp at h
 ·rename_i b args ts
  split at h
  ·rename_i ps h1
   have hv:=qX hf h1
   obtain⟨v,r,q⟩:=aHp h hv ty (args.map fun|.const _=>true|_=>false) w
   refine⟨v,?_,q⟩
   simp only[execOp,resolve,invoke,Sem.run_bind,Sem.run_pure,Result.andThen_ok]
   rw[show args.map a.eval=(args.toList.map a.eval).toArray from by apply Array.ext';simp]
   exact r
  ·simp at h
 ·simp at h
end
end
section
open Go.RowKit
section
variable{c:Cx}{fl:Nat}
theorem gJ{w:World}{b:Nat}{o:Obj}(h:w.heap[b]?=some o):b<w.heap.size:=(Array.getElem?_eq_some_iff.1 h).1
theorem y7{w:World}{a:Addr}{v:Value}(h:w.cell? a=some v):a.block<w.heap.size:=World.block_lt_of_cell? w a h
def Cx.at(c:Cx)(w:World):Cx:={ c with w:=w }
theorem Nx.grow{w':World}(_hs:Sr c)(h:c.w.grownBy w' none):Nx fl c (c.at w') where
 X:=rfl
 os:=h.os
 tape:=h.tape
 output:=h.output
 size:=h.size
 len:=yAk _
 cell:=fun a v ha hv=>⟨ha,by
  show w'.cell? a=some v
  rw[World.cell?_of_block (h.block a.block (y7 hv) (by simp))];exact hv⟩
 bF:=fun _ h=>h
 new:=fun _ h=>.inl h
 qW:=fun _ p _ h=>⟨rfl,p,h⟩
 mE:=fun _ _ h=>⟨rfl,h⟩
 rU:=fun _ _ _ n _ h=>⟨n,h,yAk _,fun _=>rfl⟩
 rV:=fun _ _ _ v cs _ h=>⟨v,cs,h,yAk _,fun _=>rfl⟩
 back:=fun _ _ h h' _=>⟨h,h'⟩
 frame:=fun k hk _=>h.block k hk (by simp)
 ro:=fun _ _ _=>rfl
 hole:=fun _ _ _=>rfl
theorem y9{w w':World}{e:TypeId}{size n:Nat}{v:Value}{xs:List Value}(h:w.ownsRowF 0 e size v n xs)(hb:∀g,aV v=some g->w'.heap[g]?=w.heap[g]?):w'.ownsRowF 0 e size v n xs:=by
 refine⟨h.1,?_⟩
 rcases h.2 with hn | ⟨g,cap,cur,fz,rfl,hb0,hg,rest⟩
 ·exact .inl hn
 ·exact .inr ⟨g,cap,cur,fz,rfl,hb0,by rw[hb g rfl];exact hg,rest⟩
theorem Sr.grow{w':World}(hs:Sr c)(h:c.w.grownBy w' none):Sr (c.at w') where
 box:=fun id p hd hp=>by
  obtain⟨b,cs,T,e1,e2,e3,e4⟩:=hs.box id p hd hp
  exact⟨b,cs,T,e1,by show w'.heap[b]?=_;rw[h.block b (gJ e2) (by simp)];exact e2,e3.mono (Nx.grow (fl:=0) hs h),e4⟩
 own:=fun id e size n hd ho=>by
  obtain⟨xs,hx⟩:=hs.own id e size n hd ho
  exact⟨xs,y9 hx (fun g hg=>h.block g (hs.lt id g hd hg) (by simp))⟩
 mark:=fun id hd hm=>by
  obtain⟨b,e1,e2⟩:=hs.mark id hd hm
  exact⟨b,e1,by show w'.heap[b]?=_;rw[h.block b (gJ e2) (by simp)];exact e2⟩
 row:=fun id e sz ver ds hd ho=>by
  obtain⟨b,C,cur,e1,e2,e3,e4,e5,e6,e7,e8⟩:=hs.row id e sz ver ds hd ho
  exact⟨b,C,cur,e1,by show w'.heap[b]?=_;rw[h.block b (gJ e2) (by simp)];exact e2,e3,e4,e5,e6,e7.mono (Nx.grow (fl:=0) hs h),e8⟩
 map:=fun id es hd ho=>by
  obtain⟨b,ents,clock,e1,e2,e3,e4⟩:=hs.map id es hd ho
  exact⟨b,ents,clock,e1,by show w'.heap[b]?=_;rw[h.block b (gJ e2) (by simp)];exact e2,e3.mono (Nx.grow (fl:=0) hs h),e4.mono (Nx.grow (fl:=0) hs h)⟩
 loop:=fun id st fr ps asg bd hd hl=>by
  obtain⟨b,r,e1,e2,e3,e4,e5,e6,e7⟩:=hs.loop id st fr ps asg bd hd hl
  exact⟨b,r,e1,by show w'.heap[b]?=_;rw[h.block b (gJ e2) (by simp)];exact e2,e3,e4,e5,e6.mono (Nx.grow (fl:=0) hs h),e7⟩
 inj:=hs.inj
 lt:=fun id b hd hb=>Nat.lt_of_lt_of_le (hs.lt id b hd hb) h.size
 bF:=hs.bF
 fresh:=fun a ha=>hs.fresh a (Nat.le_trans h.size ha)
 jZ:=hs.jZ.mono (Nx.grow (fl:=0) hs h)
theorem Y0(w:World):w.grownBy w.drew none:=⟨rfl,rfl,rfl,yAk _,fun _ _ _=>rfl⟩
def Cx.push(c:Cx)(w:World)(v:Value)(o:aB):Cx:=
 { w:=w,ρ:=fun i=>if i=c.σ.length then v else c.ρ i,σ:=c.σ++[o],D:=fun i=>c.D i\/i=c.σ.length,X:=c.X }
theorem aHc{id:Nat}(hs:Sr c)(hd:c.D id):id≠c.σ.length:=Nat.ne_of_lt (hs.bF id hd)
theorem oD{w:World}{v:Value}{o:aB}{id:Nat}(hs:Sr c)(hd:c.D id):(c.push w v o).ρ id=c.ρ id:=by simp[Cx.push,aHc hs hd]
theorem tJ{w:World}{v:Value}{o:aB}{id:Nat}(hs:Sr c)(hd:c.D id):(c.push w v o).σ[id]?=c.σ[id]?:=by
 simp[Cx.push,yAg (hs.bF id hd)]
theorem fO{w:World}{v:Value}{o:aB}:(c.push w v o).σ[c.σ.length]?=some o/\(c.push w v o).ρ c.σ.length=v/\(c.push w v o).D c.σ.length:=by simp[Cx.push]
theorem Nx.push{w':World}{v:Value}{o:aB}(hs:Sr c)(h:c.w.grownBy w' none)(hv:∀b,aV v=some b->c.w.heap.size<=b):Nx fl c (c.push w' v o) where
 X:=rfl
 os:=h.os
 tape:=h.tape
 output:=h.output
 size:=h.size
 len:=by simp[Cx.push]
 cell:=fun a u ha hu=>by
  have hlt:=y7 hu
  refine⟨⟨ha.1,fun id o' hd ho=>?_⟩,by show w'.cell? a=some u;rw[World.cell?_of_block (h.block a.block hlt (by simp))];exact hu⟩
  rcases hd with hd|rfl
  ·rw[tJ hs hd]at ho
   rw[oD hs hd]
   exact ha.2 id o' hd ho
  ·obtain⟨e1,e2,_⟩:=fO (c:=c) (w:=w') (v:=v) (o:=o)
   rw[e1]at ho;rw[e2]
   simp only[yAb]at ho;subst ho
   cases o with
   |none=>trivial
   |box p=>intro b hb e;have:=hv b hb;omega
   |own e size n=>intro b hb e;have:=hv b hb;omega
   |row e size ver ds=>intro b hb e;have:=hv b hb;omega
   |map es=>trivial
   |mark=>trivial
   |loop st fr ps asg bd=>trivial
 bF:=fun _ h=>.inl h
 new:=fun id hd=>by rcases hd with hd|rfl;exact .inl hd;exact .inr (yAk _)
 qW:=fun id p hd hp=>⟨oD hs hd,p,by rw[tJ hs hd];exact hp⟩
 mE:=fun id hd hn=>⟨oD hs hd,by rw[tJ hs hd];exact hn⟩
 rU:=fun id e s n hd ho=>⟨n,by rw[tJ hs hd];exact ho,yAk _,fun _=>oD hs hd⟩
 rV:=fun id e s v' cs hd ho=>⟨v',cs,by rw[tJ hs hd]at ho;exact ho,yAk _,fun _=>oD hs hd⟩
 back:=fun id b hd hb hlt=>by
  rcases hd with hd|rfl
  ·rw[oD hs hd]at hb;exact⟨hd,hb⟩
  ·rw[(fO (c:=c) (w:=w') (v:=v) (o:=o)).2.1]at hb
   have:=hv b hb;omega
 frame:=fun k hk _=>h.block k hk (by simp)
 ro:=fun id _ hl=>by simp[Cx.push,yAg hl]
 hole:=fun id hl _=>by simp[Cx.push,yAg hl]
theorem Sr.push{w':World}{v:Value}{o:aB}(hs:Sr c)(h:c.w.grownBy w' none)(hv:∀b,aV v=some b->c.w.heap.size<=b/\b<w'.heap.size)
  (ho:match o with
   |.none=>True
   |.box p=>∃b cs T,v=.pointer (some ⟨b,0,none⟩)/\w'.heap[b]?=some (.cells cs T (0,0))/\aQ c cs.toList p.cells/\(∀v∈cs.toList,v.oneCell'=true)/\∀t ds,p=.typed t ds->T=t
   |.own e size n=>∃xs,w'.ownsRowF 0 e size v n xs
   |.row e size _ ds=>∃b C cur,v=.slice (some ⟨b,0,none⟩) 0 C/\w'.heap[b]?=some (.cells cur e (0,0))/\cur.size=C*size/\C<=maxLen/\0<size /\
     ds.length<=cur.size/\aQ c (cur.toList.take ds.length) ds/\∀v∈cur.toList,v.oneCell'=true
   |.map es=>∃b ents clock,v=.map (some b)/\w'.heap[b]?=some (.map ents clock)/\aQ c (ents.toList.map MapEntry.key) (es.map Prod.fst)/\aQ c (ents.toList.map MapEntry.val) (es.map Prod.snd)
   |.mark=>∃b,v=.pointer (some ⟨b,0,none⟩)/\w'.heap[b]?=some (.deferred (some []))
   |.loop st fr ps assign body=>∃b r,v=.pointer (some ⟨b,0,none⟩)/\w'.heap[b]?=some (.loop r)/\r.params=ps.toArray/\r.assign=assign/\r.body=body/\aQ c r.tmps.toList fr/\st.fits r):Sr (c.push w' v o):=by
 have nx:Nx 0 c (c.push w' v o):=Nx.push hs h (fun b hb=>(hv b hb).1)
 refine⟨?_,?_,?_,?_,?_,?_,?_,?_,?_,?_,hs.jZ.mono nx⟩
 ·intro id p hd hp
  rcases hd with hd|rfl
  ·rw[tJ hs hd]at hp
   obtain⟨b,cs,T,e1,e2,e3,e4⟩:=hs.box id p hd hp
   exact⟨b,cs,T,(oD hs hd).trans e1,by show w'.heap[b]?=_;rw[h.block b (gJ e2) (by simp)];exact e2,e3.mono nx,e4⟩
  ·rw[fO.1]at hp
   simp only[yAb]at hp;subst hp
   obtain⟨b,cs,T,e1,e2,e3,e4⟩:=ho
   exact⟨b,cs,T,fO.2.1.trans e1,e2,e3.mono nx,e4⟩
 ·intro id e size n hd hp
  rcases hd with hd|rfl
  ·rw[tJ hs hd]at hp
   obtain⟨xs,hx⟩:=hs.own id e size n hd hp
   rw[oD hs hd]
   exact⟨xs,y9 hx (fun g hg=>h.block g (hs.lt id g hd hg) (by simp))⟩
  ·rw[fO.1]at hp
   simp only[yAb]at hp;subst hp
   rw[fO.2.1]
   exact ho
 ·intro id e size ver ds hd hp
  rcases hd with hd|rfl
  ·rw[tJ hs hd]at hp
   obtain⟨b,C,cur,e1,e2,e3,e4,e5,e6,e7,e8⟩:=hs.row id e size ver ds hd hp
   exact⟨b,C,cur,(oD hs hd).trans e1,by show w'.heap[b]?=_;rw[h.block b (gJ e2) (by simp)];exact e2,e3,e4,e5,e6,e7.mono nx,e8⟩
  ·rw[fO.1]at hp
   simp only[yAb]at hp;subst hp
   obtain⟨b,C,cur,e1,e2,e3,e4,e5,e6,e7,e8⟩:=ho
   exact⟨b,C,cur,fO.2.1.trans e1,e2,e3,e4,e5,e6,e7.mono nx,e8⟩
 ·intro id es hd hp
  rcases hd with hd|rfl
  ·rw[tJ hs hd]at hp
   obtain⟨b,ents,clock,e1,e2,e3,e4⟩:=hs.map id es hd hp
   exact⟨b,ents,clock,(oD hs hd).trans e1,by show w'.heap[b]?=_;rw[h.block b (gJ e2) (by simp)];exact e2,e3.mono nx,e4.mono nx⟩
  ·rw[fO.1]at hp
   simp only[yAb]at hp;subst hp
   obtain⟨b,ents,clock,e1,e2,e3,e4⟩:=ho
   exact⟨b,ents,clock,fO.2.1.trans e1,e2,e3.mono nx,e4.mono nx⟩
 ·intro id hd hm
  rcases hd with hd|rfl
  ·rw[tJ hs hd]at hm
   obtain⟨b,e1,e2⟩:=hs.mark id hd hm
   exact⟨b,(oD hs hd).trans e1,by show w'.heap[b]?=_;rw[h.block b (gJ e2) (by simp)];exact e2⟩
  ·rw[fO.1]at hm
   simp only[yAb]at hm;subst hm
   obtain⟨b,e1,e2⟩:=ho
   exact⟨b,fO.2.1.trans e1,e2⟩
 ·intro id st fr ps asg bd hd hm
  rcases hd with hd|rfl
  ·rw[tJ hs hd]at hm
   obtain⟨b,r,e1,e2,e3,e4,e5,e6,e7⟩:=hs.loop id st fr ps asg bd hd hm
   exact⟨b,r,(oD hs hd).trans e1,by show w'.heap[b]?=_;rw[h.block b (gJ e2) (by simp)];exact e2,e3,e4,e5,e6.mono nx,e7⟩
  ·rw[fO.1]at hm
   simp only[yAb]at hm;subst hm
   obtain⟨b,r,e1,e2,e3,e4,e5,e6,e7⟩:=ho
   exact⟨b,r,fO.2.1.trans e1,e2,e3,e4,e5,e6.mono nx,e7⟩
 ·intro id id' b hd hd' hne hb hb'
  rcases hd with hd|rfl
  ·rw[oD hs hd]at hb
   rcases hd' with hd' | rfl
   ·rw[oD hs hd']at hb'
    exact hs.inj id id' b hd hd' hne hb hb'
   ·rw[fO.2.1]at hb'
    have:=(hv b hb').1
    have:=hs.lt id b hd hb
    omega
  ·rw[fO.2.1]at hb
   rcases hd' with hd' | rfl
   ·rw[oD hs hd']at hb'
    have:=(hv b hb).1
    have:=hs.lt id' b hd' hb'
    omega
   ·exact hne rfl
 ·intro id b hd hb
  rcases hd with hd|rfl
  ·rw[oD hs hd]at hb;exact Nat.lt_of_lt_of_le (hs.lt id b hd hb) h.size
  ·rw[fO.2.1]at hb;exact(hv b hb).2
 ·intro id hd
  rcases hd with hd|rfl
  ·have:=hs.bF id hd;simp[Cx.push];omega
  ·simp[Cx.push]
 ·exact fun a ha=>hs.fresh a (Nat.le_trans h.size ha)
def Cx.put(c:Cx)(w:World)(id:Nat)(v:Value)(o:aB):Cx:=
 { c with w:=w,ρ:=fun i=>if i=id then v else c.ρ i,σ:=c.σ.set id o }
theorem dR{w:World}{v:Value}{o:aB}{id i:Nat}(h:i≠id):(c.put w id v o).σ[i]?=c.σ[i]?:=by simp[Cx.put,yAd (Ne.symm h)]
theorem fU{w:World}{v:Value}{o:aB}{id i:Nat}(h:i≠id):(c.put w id v o).ρ i=c.ρ i:=by simp[Cx.put,h]
theorem fC{w:World}{v:Value}{o:aB}{id:Nat}(h:id<c.σ.length):(c.put w id v o).σ[id]?=some o:=by simp[Cx.put,h]
theorem mZ{w:World}{v:Value}{o:aB}{id:Nat}:(c.put w id v o).ρ id=v:=by simp[Cx.put]
theorem Nx.zF{w':World}{id b:Nat}{q q':PD}(hs:Sr c)(hd:c.D id)(hq:c.σ[id]?=some (.box q))(hr:c.ρ id=.pointer (some ⟨b,0,none⟩))(hfl:fl<=id)
  (h0:w'.os=c.w.os/\w'.tape=c.w.tape/\w'.output=c.w.output/\w'.heap.size=c.w.heap.size) (h1:∀k,k≠b->w'.heap[k]?=c.w.heap[k]?) :
  Nx fl c (c.put w' id (c.ρ id) (.box q')):=by
 have hρ:∀i,(c.put w' id (c.ρ id) (.box q')).ρ i=c.ρ i:=fun i=>by
  by_cases e:i=id
  ·subst e;exact mZ
  ·exact fU e
 have hb:aV (c.ρ id)=some b:=by rw[hr];rfl
 refine⟨rfl,h0.1,h0.2.1,h0.2.2.1,Nat.le_of_eq h0.2.2.2.symm,by simp[Cx.put],?_,fun _ h=>h,fun _ h=>.inl h,?_,?_,?_,?_,?_,?_,?_,fun i _ hi=>dR (fun e=>hi (by rw[e];exact hd))⟩
 ·intro a u ha hu
  have hne:a.block≠b:=ha.2 id _ hd hq b hb
  refine⟨⟨ha.1,fun i o hi ho=>?_⟩,by show w'.cell? a=some u;rw[World.cell?_of_block (h1 a.block hne)];exact hu⟩
  rw[hρ]
  by_cases e:i=id
  ·subst e
   rw[fC (hs.bF i hd)]at ho
   simp only[yAb]at ho;subst ho
   exact fun b' hb'=>ha.2 i _ hd hq b' hb'
  ·rw[dR e]at ho
   exact ha.2 i o hi ho
 ·intro i p hi hp
  refine⟨hρ i,?_⟩
  by_cases e:i=id
  ·subst e;exact⟨q',fC (hs.bF i hd)⟩
  ·exact⟨p,by rw[dR e];exact hp⟩
 ·intro i hi hn
  refine⟨hρ i,?_⟩
  by_cases e:i=id
  ·subst e;rw[fC (hs.bF i hd)];trivial
  ·rw[dR e];exact hn
 ·intro i e' s n hi ho
  have e:i≠id:=by rintro rfl;rw[hq]at ho;cases ho
  exact⟨n,by rw[dR e];exact ho,yAk _,fun _=>hρ i⟩
 ·intro i e' s v cs hi ho
  have e:i≠id:=by rintro rfl;rw[fC (hs.bF i hd)]at ho;cases ho
  exact⟨v,cs,by rw[dR e]at ho;exact ho,yAk _,fun _=>hρ i⟩
 ·intro i b' hi hb' _
  rw[hρ]at hb'
  exact⟨hi,hb'⟩
 ·intro k _ hk
  exact h1 k (fun e=>hk id hd hfl (by rw[e];exact hb))
 ·intro i hi _
  exact dR (by omega)
theorem Sr.zF{w':World}{id b:Nat}{q q':PD}{cs:Array Value}{T:TypeId}(hs:Sr c)(hd:c.D id)(hq:c.σ[id]?=some (.box q))(hr:c.ρ id=.pointer (some ⟨b,0,none⟩))
  (h0:w'.os=c.w.os/\w'.tape=c.w.tape/\w'.output=c.w.output/\w'.heap.size=c.w.heap.size) (h1:∀k,k≠b->w'.heap[k]?=c.w.heap[k]?)
  (h2:w'.heap[b]?=some (.cells cs T (0,0))) (h3:aQ c cs.toList q'.cells) (h4:(∀v∈cs.toList,v.oneCell'=true)/\∀t ds,q'=.typed t ds->T=t):Sr (c.put w' id (c.ρ id) (.box q')):=by
 have nx:Nx 0 c (c.put w' id (c.ρ id) (.box q')):=Nx.zF hs hd hq hr (yBf _) h0 h1
 have hρ:∀i,(c.put w' id (c.ρ id) (.box q')).ρ i=c.ρ i:=fun i=>by
  by_cases e:i=id
  ·subst e;exact mZ
  ·exact fU e
 have hb:aV (c.ρ id)=some b:=by rw[hr];rfl
 refine⟨?_,?_,?_,?_,?_,?_,?_,?_,?_,?_,hs.jZ.mono nx⟩
 ·intro i p hi hp
  by_cases e:i=id
  ·subst e
   rw[fC (hs.bF i hd)]at hp
   simp only[yAb,aB.box.injEq]at hp;subst hp
   exact⟨b,cs,T,(hρ i).trans hr,h2,h3.mono nx,h4⟩
  ·rw[dR e]at hp
   obtain⟨b',cs',T',e1,e2,e3,e4⟩:=hs.box i p hi hp
   refine⟨b',cs',T',(hρ i).trans e1,?_,e3.mono nx,e4⟩
   show w'.heap[b']?=_
   rw[h1 b' (fun e'=>hs.inj i id b' hi hd e (by rw[e1];rfl) (by rw[e'];exact hb))]
   exact e2
 ·intro i e' s n hi ho
  have e:i≠id:=by rintro rfl;rw[fC (hs.bF i hd)]at ho;cases ho
  rw[dR e]at ho
  obtain⟨xs,hx⟩:=hs.own i e' s n hi ho
  rw[hρ]
  exact⟨xs,y9 hx (fun g hg=>h1 g (fun e''=>hs.inj i id g hi hd e hg (by rw[e''];exact hb)))⟩
 ·intro i e' size ver ds hi ho
  have e:i≠id:=by rintro rfl;rw[fC (hs.bF i hd)]at ho;cases ho
  rw[dR e]at ho
  obtain⟨b',C,cur,e1,e2,e3,e4,e5,e6,e7,e8⟩:=hs.row i e' size ver ds hi ho
  refine⟨b',C,cur,(hρ i).trans e1,?_,e3,e4,e5,e6,e7.mono nx,e8⟩
  show w'.heap[b']?=_
  rw[h1 b' (fun e'=>hs.inj i id b' hi hd e (by rw[e1];rfl) (by rw[e'];exact hb))]
  exact e2
 ·intro i es hi ho
  have e:i≠id:=by rintro rfl;rw[fC (hs.bF i hd)]at ho;cases ho
  rw[dR e]at ho
  obtain⟨b',ents,clock,e1,e2,e3,e4⟩:=hs.map i es hi ho
  refine⟨b',ents,clock,(hρ i).trans e1,?_,e3.mono nx,e4.mono nx⟩
  show w'.heap[b']?=_
  rw[h1 b' (fun e'=>hs.inj i id b' hi hd e (by rw[e1];rfl) (by rw[e'];exact hb))]
  exact e2
 ·intro i hi hm
  have e:i≠id:=by rintro rfl;rw[fC (hs.bF i hd)]at hm;cases hm
  rw[dR e]at hm
  obtain⟨b',e1,e2⟩:=hs.mark i hi hm
  refine⟨b',(hρ i).trans e1,?_⟩
  show w'.heap[b']?=_
  rw[h1 b' (fun e'=>hs.inj i id b' hi hd e (by rw[e1];rfl) (by rw[e'];exact hb))]
  exact e2
 ·intro i st fr ps asg bd hi hm
  have e:i≠id:=by rintro rfl;rw[fC (hs.bF i hd)]at hm;cases hm
  rw[dR e]at hm
  obtain⟨b',r,e1,e2,e3,e4,e5,e6,e7⟩:=hs.loop i st fr ps asg bd hi hm
  refine⟨b',r,(hρ i).trans e1,?_,e3,e4,e5,e6.mono nx,e7⟩
  show w'.heap[b']?=_
  rw[h1 b' (fun e'=>hs.inj i id b' hi hd e (by rw[e1];rfl) (by rw[e'];exact hb))]
  exact e2
 ·intro i j b' hi hj hne h5 h6
  rw[hρ]at h5 h6
  exact hs.inj i j b' hi hj hne h5 h6
 ·intro i b' hi h5
  rw[hρ]at h5
  show b'<w'.heap.size
  rw[h0.2.2.2];exact hs.lt i b' hi h5
 ·intro i hi
  simp only[Cx.put,yBd]
  exact hs.bF i hi
 ·intro a ha
  exact hs.fresh a (by show c.w.heap.size<=a.block;rw[<-h0.2.2.2];exact ha)
theorem Nx.H6{w':World}{id n n' size:Nat}{e:TypeId}{v':Value}(hs:Sr c)(hd:c.D id)(hq:c.σ[id]?=some (.own e size n))(hfl:fl<=id)(hn:n<n')
  (h0:w'.os=c.w.os/\w'.tape=c.w.tape/\w'.output=c.w.output/\c.w.heap.size<=w'.heap.size)
  (h1:∀k,k<c.w.heap.size->aV (c.ρ id)≠some k->w'.heap[k]?=c.w.heap[k]?)
  (h2:∀(a:Addr) (u:Value),(∀b,aV (c.ρ id)=some b->a.block=b->a.off<n*size)->c.w.cell? a=some u->w'.cell? a=some u)
  (h3:aV v'=aV (c.ρ id)\/∀b,aV v'=some b->c.w.heap.size<=b) :
  Nx fl c (c.put w' id v' (.own e size n')):=by
 refine⟨rfl,h0.1,h0.2.1,h0.2.2.1,h0.2.2.2,by simp[Cx.put],?_,fun _ h=>h,fun _ h=>.inl h,?_,?_,?_,?_,?_,?_,?_,fun i _ hi=>dR (fun e=>hi (by rw[e];exact hd))⟩
 ·intro a u ha hu
  have hav:∀b,aV (c.ρ id)=some b->a.block=b->a.off<n*size:=ha.2 id _ hd hq
  refine⟨⟨ha.1,fun i o hi ho=>?_⟩,h2 a u hav hu⟩
  by_cases e':i=id
  ·subst e'
   rw[fC (hs.bF i hd)]at ho
   simp only[yAb]at ho;subst ho
   rw[mZ]
   intro b hb hab
   rcases h3 with h3|h3
   ·have:=hav b (by rw[<-h3];exact hb) hab
    exact Nat.lt_of_lt_of_le this (Nat.mul_le_mul_right _ (Nat.le_of_lt hn))
   ·have:=h3 b hb
    have:=y7 hu
    omega
  ·rw[dR e']at ho
   rw[fU e']
   exact ha.2 i o hi ho
 ·intro i p hi hp
  have e':i≠id:=by rintro rfl;rw[hq]at hp;cases hp
  exact⟨fU e',p,by rw[dR e'];exact hp⟩
 ·intro i hi hn
  have e':i≠id:=by rintro rfl;rw[hq]at hn;exact hn
  exact⟨fU e',by rw[dR e'];exact hn⟩
 ·intro i e0 s m hi ho
  by_cases e':i=id
  ·subst e'
   rw[hq]at ho
   simp only[yAb,aB.own.injEq]at ho
   obtain⟨rfl,rfl,rfl⟩:=ho
   exact⟨n',fC (hs.bF i hd),Nat.le_of_lt hn,fun h=>by omega⟩
  ·exact⟨m,by rw[dR e'];exact ho,yAk _,fun _=>fU e'⟩
 ·intro i e0 s v cs hi ho
  have e':i≠id:=by rintro rfl;rw[fC (hs.bF i hd)]at ho;cases ho
  exact⟨v,cs,by rw[dR e']at ho;exact ho,yAk _,fun _=>fU e'⟩
 ·intro i b hi hb hlt
  by_cases e':i=id
  ·subst e'
   rw[mZ]at hb
   rcases h3 with h3|h3
   ·exact⟨hi,by rw[<-h3];exact hb⟩
   ·have:=h3 b hb;omega
  ·rw[fU e']at hb;exact⟨hi,hb⟩
 ·intro k hk hx
  exact h1 k hk (hx id hd hfl)
 ·intro i hi _
  exact dR (by omega)
theorem Sr.H6{w':World}{id n n' size:Nat}{e:TypeId}{v':Value}{xs:List Value}(hs:Sr c)(hd:c.D id)(hq:c.σ[id]?=some (.own e size n))(hn:n<n')
  (h0:w'.os=c.w.os/\w'.tape=c.w.tape/\w'.output=c.w.output/\c.w.heap.size<=w'.heap.size)
  (h1:∀k,k<c.w.heap.size->aV (c.ρ id)≠some k->w'.heap[k]?=c.w.heap[k]?)
  (h2:∀(a:Addr) (u:Value),(∀b,aV (c.ρ id)=some b->a.block=b->a.off<n*size)->c.w.cell? a=some u->w'.cell? a=some u)
  (h3:aV v'=aV (c.ρ id)\/∀b,aV v'=some b->c.w.heap.size<=b) (h4:w'.ownsRowF 0 e size v' n' xs) (h5:∀b,aV v'=some b->b<w'.heap.size) :
  Sr (c.put w' id v' (.own e size n')):=by
 have nx:Nx 0 c (c.put w' id v' (.own e size n')):=Nx.H6 hs hd hq (yBf _) hn h0 h1 h2 h3
 have hoth:∀i b,c.D i->i≠id->aV (c.ρ i)=some b->aV v'≠some b:=fun i b hi hne hb hb'=>by
  rcases h3 with h3|h3
  ·exact hs.inj i id b hi hd hne hb (by rw[<-h3];exact hb')
  ·have:=h3 b hb'
   have:=hs.lt i b hi hb
   omega
 refine⟨?_,?_,?_,?_,?_,?_,?_,?_,?_,?_,hs.jZ.mono nx⟩
 ·intro i p hi hp
  have e':i≠id:=by rintro rfl;rw[fC (hs.bF i hd)]at hp;cases hp
  rw[dR e']at hp
  obtain⟨b',cs',T',e1,e2,e3,e4⟩:=hs.box i p hi hp
  refine⟨b',cs',T',(fU e').trans e1,?_,e3.mono nx,e4⟩
  show w'.heap[b']?=_
  rw[h1 b' (gJ e2) (fun h=>hs.inj i id b' hi hd e' (by rw[e1];rfl) h)]
  exact e2
 ·intro i e0 s m hi ho
  by_cases e':i=id
  ·subst e'
   rw[fC (hs.bF i hd)]at ho
   simp only[yAb,aB.own.injEq]at ho
   obtain⟨rfl,rfl,rfl⟩:=ho
   rw[mZ]
   exact⟨xs,h4⟩
  ·rw[dR e']at ho
   obtain⟨ys,hy⟩:=hs.own i e0 s m hi ho
   rw[fU e']
   exact⟨ys,y9 hy (fun g hg=>h1 g (hs.lt i g hi hg) (fun h=>hs.inj i id g hi hd e' hg h))⟩
 ·intro i e0 size' ver ds hi ho
  have e':i≠id:=by rintro rfl;rw[fC (hs.bF i hd)]at ho;cases ho
  rw[dR e']at ho
  obtain⟨b',C,cur,e1,e2,e3,e4,e5,e6,e7,e8⟩:=hs.row i e0 size' ver ds hi ho
  refine⟨b',C,cur,(fU e').trans e1,?_,e3,e4,e5,e6,e7.mono nx,e8⟩
  show w'.heap[b']?=_
  rw[h1 b' (gJ e2) (fun h=>hs.inj i id b' hi hd e' (by rw[e1];rfl) h)]
  exact e2
 ·intro i es hi ho
  have e':i≠id:=by rintro rfl;rw[fC (hs.bF i hd)]at ho;cases ho
  rw[dR e']at ho
  obtain⟨b',ents,clock,e1,e2,e3,e4⟩:=hs.map i es hi ho
  refine⟨b',ents,clock,(fU e').trans e1,?_,e3.mono nx,e4.mono nx⟩
  show w'.heap[b']?=_
  rw[h1 b' (gJ e2) (fun h=>hs.inj i id b' hi hd e' (by rw[e1];rfl) h)]
  exact e2
 ·intro i hi hm
  have e':i≠id:=by rintro rfl;rw[fC (hs.bF i hd)]at hm;cases hm
  rw[dR e']at hm
  obtain⟨b',e1,e2⟩:=hs.mark i hi hm
  refine⟨b',(fU e').trans e1,?_⟩
  show w'.heap[b']?=_
  rw[h1 b' (gJ e2) (fun h=>hs.inj i id b' hi hd e' (by rw[e1];rfl) h)]
  exact e2
 ·intro i st fr ps asg bd hi hm
  have e':i≠id:=by rintro rfl;rw[fC (hs.bF i hd)]at hm;cases hm
  rw[dR e']at hm
  obtain⟨b',r,e1,e2,e3,e4,e5,e6,e7⟩:=hs.loop i st fr ps asg bd hi hm
  refine⟨b',r,(fU e').trans e1,?_,e3,e4,e5,e6.mono nx,e7⟩
  show w'.heap[b']?=_
  rw[h1 b' (gJ e2) (fun h=>hs.inj i id b' hi hd e' (by rw[e1];rfl) h)]
  exact e2
 ·intro i j b hi hj hne hb hb'
  by_cases e':i=id
  ·subst e'
   rw[mZ]at hb
   rw[fU (Ne.symm hne)]at hb'
   exact hoth j b hj (Ne.symm hne) hb' hb
  ·rw[fU e']at hb
   by_cases e'':j=id
   ·subst e''
    rw[mZ]at hb'
    exact hoth i b hi e' hb hb'
   ·rw[fU e'']at hb'
    exact hs.inj i j b hi hj hne hb hb'
 ·intro i b hi hb
  by_cases e':i=id
  ·subst e';rw[mZ]at hb;exact h5 b hb
  ·rw[fU e']at hb;exact Nat.lt_of_lt_of_le (hs.lt i b hi hb) h0.2.2.2
 ·intro i hi
  simp only[Cx.put,yBd]
  exact hs.bF i hi
 ·intro a ha
  exact hs.fresh a (Nat.le_trans h0.2.2.2 ha)
def aB.nc:aB->Prop
 |.box _=>False
 |.own _ _ _=>False
 |.row _ _ _ _=>False
 |_=>True
theorem Nx.tL{id b:Nat}{o o':aB}{x x':Obj}(hs:Sr c)(hd:c.D id)(ho:c.σ[id]?=some o)(hn:o.nc)(hn':o'.nc)(hb:aV (c.ρ id)=some b)(hfl:fl<=id)
  (hx:c.w.heap[b]?=some x) (hxc:∀cs T fz,x≠.cells cs T fz) :
  Nx fl c (c.put (c.w.putObj b x') id (c.ρ id) o'):=by
 have hρ:∀i,(c.put (c.w.putObj b x') id (c.ρ id) o').ρ i=c.ρ i:=fun i=>by
  by_cases e:i=id
  ·subst e;exact mZ
  ·exact fU e
 refine⟨rfl,rfl,rfl,rfl,by simp[Cx.put],by simp[Cx.put],?_,fun _ h=>h,fun _ h=>.inl h,?_,?_,?_,?_,?_,?_,?_,fun i _ hi=>dR (fun e=>hi (by rw[e];exact hd))⟩
 ·intro a u ha hu
  have hne:a.block≠b:=by
   intro e
   unfold World.cell? at hu
   rw[e,hx]at hu
   cases x<;>first|exact hxc _ _ _ rfl|(simp at hu)
  refine⟨⟨ha.1,fun i oo hi hoo=>?_⟩,by show(c.w.putObj b x').cell? a=some u;rw[World.cell?_of_block (World.putObj_heap_other hne)];exact hu⟩
  rw[hρ]
  by_cases e:i=id
  ·subst e
   rw[fC (hs.bF i hd)]at hoo
   simp only[yAb]at hoo;subst hoo
   cases o'<;>first|exact hn'.elim|trivial
  ·rw[dR e]at hoo
   exact ha.2 i oo hi hoo
 ·intro i p hi hp
  have e:i≠id:=by rintro rfl;rw[ho]at hp;simp only[yAb]at hp;subst hp;exact hn
  exact⟨hρ i,p,by rw[dR e];exact hp⟩
 ·intro i hi hni
  refine⟨hρ i,?_⟩
  by_cases e:i=id
  ·subst e
   rw[fC (hs.bF i hd)]
   cases o'<;>first|exact hn'.elim|trivial
  ·rw[dR e];exact hni
 ·intro i e0 s n hi hi'
  have e:i≠id:=by rintro rfl;rw[ho]at hi';simp only[yAb]at hi';subst hi';exact hn
  exact⟨n,by rw[dR e];exact hi',yAk _,fun _=>hρ i⟩
 ·intro i e0 s v cs hi hi'
  have e:i≠id:=by rintro rfl;rw[fC (hs.bF i hd)]at hi';simp only[yAb]at hi';subst hi';exact hn'
  exact⟨v,cs,by rw[dR e]at hi';exact hi',yAk _,fun _=>hρ i⟩
 ·intro i b' hi hb' _
  rw[hρ]at hb'
  exact⟨hi,hb'⟩
 ·intro k _ hk
  exact World.putObj_heap_other (fun e=>hk id hd hfl (by rw[e];exact hb))
 ·intro i hi _
  exact dR (by omega)
theorem Sr.tL{id b:Nat}{o o':aB}{x x':Obj}(hs:Sr c)(hd:c.D id)(ho:c.σ[id]?=some o)(hn:o.nc)(hn':o'.nc)(hb:aV (c.ρ id)=some b)
  (hx:c.w.heap[b]?=some x) (hxc:∀cs T fz,x≠.cells cs T fz)
  (hfit:match o' with
   |.mark=>x'=.deferred (some [])/\c.ρ id=.pointer (some ⟨b,0,none⟩)
   |.map es=>(∃ents clock,x'=.map ents clock/\aQ c (ents.toList.map MapEntry.key) (es.map Prod.fst)/\aQ c (ents.toList.map MapEntry.val) (es.map Prod.snd))/\c.ρ id=.map (some b)
   |.loop st fr ps assign body=>c.ρ id=.pointer (some ⟨b,0,none⟩)/\∃r,x'=.loop r/\r.params=ps.toArray/\r.assign=assign/\r.body=body/\aQ c r.tmps.toList fr/\st.fits r
   |_=>True):Sr (c.put (c.w.putObj b x') id (c.ρ id) o'):=by
 have nx:Nx 0 c (c.put (c.w.putObj b x') id (c.ρ id) o'):=Nx.tL hs hd ho hn hn' hb (yBf _) hx hxc
 have hρ:∀i,(c.put (c.w.putObj b x') id (c.ρ id) o').ρ i=c.ρ i:=fun i=>by
  by_cases e:i=id
  ·subst e;exact mZ
  ·exact fU e
 have hlt:b<c.w.heap.size:=gJ hx
 have hnew:(c.w.putObj b x').heap[b]?=some x':=World.putObj_heap_same hlt
 refine⟨?_,?_,?_,?_,?_,?_,?_,?_,?_,?_,hs.jZ.mono nx⟩
 ·intro i p hi hp
  have e:i≠id:=by
   rintro rfl
   rw[fC (hs.bF i hd)]at hp
   simp only[yAb]at hp;subst hp;exact hn'
  rw[dR e]at hp
  obtain⟨b',cs',T',e1,e2,e3,e4⟩:=hs.box i p hi hp
  refine⟨b',cs',T',(hρ i).trans e1,?_,e3.mono nx,e4⟩
  show(c.w.putObj b x').heap[b']?=_
  rw[World.putObj_heap_other (fun e'=>hs.inj i id b' hi hd e (by rw[e1];rfl) (by rw[e'];exact hb))]
  exact e2
 ·intro i e0 s n hi hi'
  have e:i≠id:=by
   rintro rfl
   rw[fC (hs.bF i hd)]at hi'
   simp only[yAb]at hi';subst hi';exact hn'
  rw[dR e]at hi'
  obtain⟨xs,hx'⟩:=hs.own i e0 s n hi hi'
  rw[hρ]
  exact⟨xs,y9 hx' (fun g hg=>World.putObj_heap_other (fun e''=>hs.inj i id g hi hd e hg (by rw[e''];exact hb)))⟩
 ·intro i e0 size ver ds hi hi'
  have e:i≠id:=by
   rintro rfl
   rw[fC (hs.bF i hd)]at hi'
   simp only[yAb]at hi';subst hi';exact hn'
  rw[dR e]at hi'
  obtain⟨b',C,cur,e1,e2,e3,e4,e5,e6,e7,e8⟩:=hs.row i e0 size ver ds hi hi'
  refine⟨b',C,cur,(hρ i).trans e1,?_,e3,e4,e5,e6,e7.mono nx,e8⟩
  show(c.w.putObj b x').heap[b']?=_
  rw[World.putObj_heap_other (fun e'=>hs.inj i id b' hi hd e (by rw[e1];rfl) (by rw[e'];exact hb))]
  exact e2
 ·intro i es hi hm
  by_cases e:i=id
  ·subst e
   rw[fC (hs.bF i hd)]at hm
   simp only[yAb]at hm;subst hm
   obtain⟨⟨ents,clock,e2,e3,e4⟩,e1⟩:=hfit
   subst e2
   exact⟨b,ents,clock,(hρ i).trans e1,hnew,e3.mono nx,e4.mono nx⟩
  ·rw[dR e]at hm
   obtain⟨b',ents,clock,e1,e2,e3,e4⟩:=hs.map i es hi hm
   refine⟨b',ents,clock,(hρ i).trans e1,?_,e3.mono nx,e4.mono nx⟩
   show(c.w.putObj b x').heap[b']?=_
   rw[World.putObj_heap_other (fun e'=>hs.inj i id b' hi hd e (by rw[e1];rfl) (by rw[e'];exact hb))]
   exact e2
 ·intro i hi hm
  by_cases e:i=id
  ·subst e
   rw[fC (hs.bF i hd)]at hm
   simp only[yAb]at hm;subst hm
   obtain⟨hfit,hr⟩:=hfit
   subst hfit
   exact⟨b,(hρ i).trans hr,hnew⟩
  ·rw[dR e]at hm
   obtain⟨b',e1,e2⟩:=hs.mark i hi hm
   refine⟨b',(hρ i).trans e1,?_⟩
   show(c.w.putObj b x').heap[b']?=_
   rw[World.putObj_heap_other (fun e'=>hs.inj i id b' hi hd e (by rw[e1];rfl) (by rw[e'];exact hb))]
   exact e2
 ·intro i st fr ps asg bd hi hm
  by_cases e:i=id
  ·subst e
   rw[fC (hs.bF i hd)]at hm
   simp only[yAb]at hm;subst hm
   obtain⟨hr,r,e2,e3,e4,e5,e6,e7⟩:=hfit
   subst e2
   exact⟨b,r,(hρ i).trans hr,hnew,e3,e4,e5,e6.mono nx,e7⟩
  ·rw[dR e]at hm
   obtain⟨b',r,e1,e2,e3,e4,e5,e6,e7⟩:=hs.loop i st fr ps asg bd hi hm
   refine⟨b',r,(hρ i).trans e1,?_,e3,e4,e5,e6.mono nx,e7⟩
   show(c.w.putObj b x').heap[b']?=_
   rw[World.putObj_heap_other (fun e'=>hs.inj i id b' hi hd e (by rw[e1];rfl) (by rw[e'];exact hb))]
   exact e2
 ·intro i j b' hi hj hne h5 h6
  rw[hρ]at h5 h6
  exact hs.inj i j b' hi hj hne h5 h6
 ·intro i b' hi h5
  rw[hρ]at h5
  show b'<(c.w.putObj b x').heap.size
  simpa using hs.lt i b' hi h5
 ·intro i hi
  simp only[Cx.put,yBd]
  exact hs.bF i hi
 ·intro a ha
  exact hs.fresh a (by simpa [Cx.put]using ha)
theorem Nx.putRow{w':World}{id size ver eR:Nat}{e:TypeId}{v':Value}{ds ds':List PD}(hs:Sr c)(hd:c.D id)(hq:c.σ[id]?=some (.row e size ver ds))(hfl:fl<=id)(hver:ver<=eR)(hsame:ver=eR->v'=c.ρ id)
  (h0:w'.os=c.w.os/\w'.tape=c.w.tape/\w'.output=c.w.output/\c.w.heap.size<=w'.heap.size)
  (h1:∀k,k<c.w.heap.size->aV (c.ρ id)≠some k->w'.heap[k]?=c.w.heap[k]?)
  (h3:aV v'=aV (c.ρ id)\/∀b,aV v'=some b->c.w.heap.size<=b) :
  Nx fl c (c.put w' id v' (.row e size eR ds')):=by
 refine⟨rfl,h0.1,h0.2.1,h0.2.2.1,h0.2.2.2,by simp[Cx.put],?_,fun _ h=>h,fun _ h=>.inl h,?_,?_,?_,?_,?_,?_,?_,fun i _ hi=>dR (fun e=>hi (by rw[e];exact hd))⟩
 ·intro a u ha hu
  have hne:∀b,aV (c.ρ id)=some b->a.block≠b:=ha.2 id _ hd hq
  refine⟨⟨ha.1,fun i o hi ho=>?_⟩,by
   show w'.cell? a=some u
   rw[World.cell?_of_block (h1 a.block (y7 hu) (fun h=>hne _ h rfl))];exact hu⟩
  by_cases e':i=id
  ·subst e'
   rw[fC (hs.bF i hd)]at ho
   simp only[yAb]at ho;subst ho
   rw[mZ]
   intro b hb hab
   rcases h3 with h3|h3
   ·exact hne b (by rw[<-h3];exact hb) hab
   ·have:=h3 b hb
    have:=y7 hu
    omega
  ·rw[dR e']at ho
   rw[fU e']
   exact ha.2 i o hi ho
 ·intro i p hi hp
  have e':i≠id:=by rintro rfl;rw[hq]at hp;cases hp
  exact⟨fU e',p,by rw[dR e'];exact hp⟩
 ·intro i hi hn
  have e':i≠id:=by rintro rfl;rw[hq]at hn;exact hn
  exact⟨fU e',by rw[dR e'];exact hn⟩
 ·intro i e0 s m hi ho
  have e':i≠id:=by rintro rfl;rw[hq]at ho;cases ho
  exact⟨m,by rw[dR e'];exact ho,yAk _,fun _=>fU e'⟩
 ·intro i e0 s v cs hi ho
  by_cases e':i=id
  ·subst e'
   rw[fC (hs.bF i hd)]at ho
   simp only[yAb,aB.row.injEq]at ho
   obtain⟨rfl,rfl,rfl,rfl⟩:=ho
   exact⟨ver,ds,hq,hver,fun h=>by rw[mZ];exact hsame h⟩
  ·exact⟨v,cs,by rw[dR e']at ho;exact ho,yAk _,fun _=>fU e'⟩
 ·intro i b hi hb hlt
  by_cases e':i=id
  ·subst e'
   rw[mZ]at hb
   rcases h3 with h3|h3
   ·exact⟨hi,by rw[<-h3];exact hb⟩
   ·have:=h3 b hb;omega
  ·rw[fU e']at hb;exact⟨hi,hb⟩
 ·intro k hk hx
  exact h1 k hk (hx id hd hfl)
 ·intro i hi _
  exact dR (by omega)
theorem Sr.putRow{w':World}{id size ver eR:Nat}{e:TypeId}{v':Value}{ds ds':List PD}(hs:Sr c)(hd:c.D id)(hq:c.σ[id]?=some (.row e size ver ds))(hver:ver<=eR)(hsame:ver=eR->v'=c.ρ id)
  (h0:w'.os=c.w.os/\w'.tape=c.w.tape/\w'.output=c.w.output/\c.w.heap.size<=w'.heap.size)
  (h1:∀k,k<c.w.heap.size->aV (c.ρ id)≠some k->w'.heap[k]?=c.w.heap[k]?)
  (h3:aV v'=aV (c.ρ id)\/∀b,aV v'=some b->c.w.heap.size<=b)
  (h4:∃b C cur,v'=.slice (some ⟨b,0,none⟩) 0 C/\w'.heap[b]?=some (.cells cur e (0,0))/\cur.size=C*size/\C<=maxLen/\0<size/\ds'.length<=cur.size/\aQ c (cur.toList.take ds'.length) ds'/\∀v∈cur.toList,v.oneCell'=true) :
  Sr (c.put w' id v' (.row e size eR ds')):=by
 have nx:Nx 0 c (c.put w' id v' (.row e size eR ds')):=Nx.putRow hs hd hq (yBf _) hver hsame h0 h1 h3
 have h5:∀b,aV v'=some b->b<w'.heap.size:=fun b hb=>by
  obtain⟨b',C,cur,rfl,h6,_⟩:=h4
  simp only[aV,yAb]at hb
  subst hb
  exact gJ h6
 have hoth:∀i b,c.D i->i≠id->aV (c.ρ i)=some b->aV v'≠some b:=fun i b hi hne hb hb'=>by
  rcases h3 with h3|h3
  ·exact hs.inj i id b hi hd hne hb (by rw[<-h3];exact hb')
  ·have:=h3 b hb'
   have:=hs.lt i b hi hb
   omega
 refine⟨?_,?_,?_,?_,?_,?_,?_,?_,?_,?_,hs.jZ.mono nx⟩
 ·intro i p hi hp
  have e':i≠id:=by rintro rfl;rw[fC (hs.bF i hd)]at hp;cases hp
  rw[dR e']at hp
  obtain⟨b',cs',T',e1,e2,e3,e4⟩:=hs.box i p hi hp
  refine⟨b',cs',T',(fU e').trans e1,?_,e3.mono nx,e4⟩
  show w'.heap[b']?=_
  rw[h1 b' (gJ e2) (fun h=>hs.inj i id b' hi hd e' (by rw[e1];rfl) h)]
  exact e2
 ·intro i e0 s n hi ho
  have e':i≠id:=by rintro rfl;rw[fC (hs.bF i hd)]at ho;cases ho
  rw[dR e']at ho
  obtain⟨xs,hx⟩:=hs.own i e0 s n hi ho
  rw[fU e']
  exact⟨xs,y9 hx (fun g hg=>h1 g (hs.lt i g hi hg) (fun h=>hs.inj i id g hi hd e' hg h))⟩
 ·intro i e0 size' aHd ds0 hi ho
  by_cases e':i=id
  ·subst e'
   rw[fC (hs.bF i hd)]at ho
   simp only[yAb,aB.row.injEq]at ho
   obtain⟨rfl,rfl,rfl,rfl⟩:=ho
   obtain⟨b',C,cur,e1,e2,e3,e4,e5,e6,e7,e8⟩:=h4
   exact⟨b',C,cur,mZ.trans e1,e2,e3,e4,e5,e6,e7.mono nx,e8⟩
  ·rw[dR e']at ho
   obtain⟨b',C,cur,e1,e2,e3,e4,e5,e6,e7,e8⟩:=hs.row i e0 size' aHd ds0 hi ho
   refine⟨b',C,cur,(fU e').trans e1,?_,e3,e4,e5,e6,e7.mono nx,e8⟩
   show w'.heap[b']?=_
   rw[h1 b' (gJ e2) (fun h=>hs.inj i id b' hi hd e' (by rw[e1];rfl) h)]
   exact e2
 ·intro i es hi ho
  have e':i≠id:=by rintro rfl;rw[fC (hs.bF i hd)]at ho;cases ho
  rw[dR e']at ho
  obtain⟨b',ents,clock,e1,e2,e3,e4⟩:=hs.map i es hi ho
  refine⟨b',ents,clock,(fU e').trans e1,?_,e3.mono nx,e4.mono nx⟩
  show w'.heap[b']?=_
  rw[h1 b' (gJ e2) (fun h=>hs.inj i id b' hi hd e' (by rw[e1];rfl) h)]
  exact e2
 ·intro i hi hm
  have e':i≠id:=by rintro rfl;rw[fC (hs.bF i hd)]at hm;cases hm
  rw[dR e']at hm
  obtain⟨b',e1,e2⟩:=hs.mark i hi hm
  refine⟨b',(fU e').trans e1,?_⟩
  show w'.heap[b']?=_
  rw[h1 b' (gJ e2) (fun h=>hs.inj i id b' hi hd e' (by rw[e1];rfl) h)]
  exact e2
 ·intro i st fr ps asg bd hi hm
  have e':i≠id:=by rintro rfl;rw[fC (hs.bF i hd)]at hm;cases hm
  rw[dR e']at hm
  obtain⟨b',r,e1,e2,e3,e4,e5,e6,e7⟩:=hs.loop i st fr ps asg bd hi hm
  refine⟨b',r,(fU e').trans e1,?_,e3,e4,e5,e6.mono nx,e7⟩
  show w'.heap[b']?=_
  rw[h1 b' (gJ e2) (fun h=>hs.inj i id b' hi hd e' (by rw[e1];rfl) h)]
  exact e2
 ·intro i j b hi hj hne hb hb'
  by_cases e':i=id
  ·subst e'
   rw[mZ]at hb
   rw[fU (Ne.symm hne)]at hb'
   exact hoth j b hj (Ne.symm hne) hb' hb
  ·rw[fU e']at hb
   by_cases e'':j=id
   ·subst e''
    rw[mZ]at hb'
    exact hoth i b hi e' hb hb'
   ·rw[fU e'']at hb'
    exact hs.inj i j b hi hj hne hb hb'
 ·intro i b hi hb
  by_cases e':i=id
  ·subst e';rw[mZ]at hb;exact h5 b hb
  ·rw[fU e']at hb;exact Nat.lt_of_lt_of_le (hs.lt i b hi hb) h0.2.2.2
 ·intro i hi
  simp only[Cx.put,yBd]
  exact hs.bF i hi
 ·intro a ha
  exact hs.fresh a (Nat.le_trans h0.2.2.2 ha)
end
end
section
open Go.RowKit
section
variable{P:Program}{c:Cx}{fl:Nat}
theorem xM(b off j:Nat):(⟨b,off,none⟩:Addr).add j=⟨b,off+j,none⟩:=by unfold Addr.add;split<;>simp_all
theorem aHb{α:Type}(l vs:List α)(off dl:Nat)(h1:off+vs.length<=dl)(h2:dl<=l.length) :
  (l.take off++vs++l.drop (off+vs.length)).take dl=(l.take dl).take off++vs++(l.take dl).drop (off+vs.length):=by
 have e1:(l.take dl).take off=l.take off:=by rw[List.take_take];congr 1;omega
 have e2:(l.take off++vs).length=off+vs.length:=by simp;omega
 rw[e1,List.take_append,e2,yAz (by rw[e2];omega),List.drop_take]
theorem aQ.fill{cells vs:List Value}{z ws:List PD}(hz:aQ c cells z)(hv:aQ c vs ws)(h1:∀v∈vs,v.oneCell'=true)(off:Nat)(hle:off+ws.length<=z.length) :
  aQ c (cells.take off++vs++cells.drop (off+vs.length)) (cX z off ws):=by
 have:=Q5 hz (v:=.agg vs.toArray) (p:=.agg ws) (.agg vs ws hv.1 h1 hv.2) off hle
 simpa [Value.cells,PD.cells]using this
theorem MA(hs:Sr c){id e size ver:Nat}{ds:List PD}(hd:c.D id)(hq:c.σ[id]?=some (.row e size ver ds)){b C:Nat}(hr:c.ρ id=.slice (some ⟨b,0,none⟩) 0 C){vs:List Value}{ws:List PD}(hv:aQ c vs ws)
  (h1:∀v∈vs,v.oneCell'=true) {off:Nat} (hle:off+ws.length<=ds.length) (hfl:fl<=id) :
  ∃w',(storeCells ⟨b,off,none⟩ vs).run P c.w=.ok () w'/\Sr (c.put w' id (c.ρ id) (.row e size ver (cX ds off ws)))/\Nx fl c (c.put w' id (c.ρ id) (.row e size ver (cX ds off ws))):=by
 obtain⟨b',C',cur,e1,e2,e3,e4,e5,e6,e7,e8⟩:=hs.row id e size ver ds hd hq
 rw[hr]at e1
 simp only[Value.slice.injEq,yAb,Addr.mk.injEq,and_true,true_and]at e1
 obtain⟨rfl,rfl⟩:=e1
 have hvl:vs.length=ws.length:=hv.1
 have hst:=run_storeCells_at (P:=P) b off e vs 0 cur c.w e2 (by omega) h1
 simp only[Nat.add_zero]at hst
 refine⟨_,hst,?_,?_⟩
 ·refine Sr.putRow hs hd hq (yAk _) (fun _=>rfl) ⟨rfl,rfl,rfl,by simp⟩ (fun k _ hk=>setRow_other _ _ _ _ (fun h=>hk (by rw[hr,h];rfl))) (.inl rfl)
   ⟨b,C,_,hr,setRow_heap _ _ cur _ e (0,0) e2,?_,e4,e5,?_,?_,?_⟩
  ·simp;omega
  ·simp[cX];omega
  ·have hpl:(cX ds off ws).length=ds.length:=by simp[cX];omega
   rw[hpl]
   show aQ c (List.take ds.length (cur.toList.take off++vs++cur.toList.drop (off+vs.length))) _
   rw[aHb _ _ _ _ (by omega) (by simpa using e6)]
   exact e7.fill hv h1 off hle
  ·exact HU e8 h1 off (off+vs.length)
 ·exact Nx.putRow hs hd hq hfl (yAk _) (fun _=>rfl) ⟨rfl,rfl,rfl,by simp⟩ (fun k _ hk=>setRow_other _ _ _ _ (fun h=>hk (by rw[hr,h];rfl))) (.inl rfl)
end
end
section
open Go.RowKit
section
variable{P:Program}{c:Cx}{fl:Nat}
def Leaves(fl:Nat)(c:Cx)(p:PD)(σ':List aB)(v:Value)(w':World):Prop:=
 ∃c',c'.w=w'/\c'.σ=σ'/\Sr c'/\Nx fl c c'/\VR c' v p/\∀id,c'.D id->c.D id\/(c.σ.length<=id/\id<σ'.length)
theorem EM{w:World}{a:Addr}{cs:List Value}{n:Nat}(hn:cs.length=n)(h:∀(j:Nat) (v:Value),cs[j]?=some v->w.cell? (a.add j)=some v) :
  (loadCells a n).run P w=.ok cs.toArray w:=by
 subst hn
 exact run_loadCells_list w a cs h
theorem Q0{w:World}{ad:Addr}{dP:List Value}{ds:List PD}(hl:aQ c dP ds)(h1:∀v∈dP,v.oneCell'=true)(hc:∀(j:Nat) (v:Value),dP[j]?=some v->w.cell? (ad.add j)=some v)
  {t:TypeId} {off:Nat} {p:PD} (h:nQ P t ds off=some p):∃v,(loadVar t (ad.add off)).run P w=.ok v w/\VR c v p:=by
 unfold nQ at h
 split at h
 ·rename_i n ha hs
  split at h
  ·rename_i hle
   simp only[yAb]at h;subst h
   have hlen:((dP.drop off).take n).length=n:=by have:=hl.1;simp;omega
   refine⟨.agg ((dP.drop off).take n).toArray,?_,?_⟩
   ·have:=EM (P:=P) (w:=w) (a:=ad.add off) hlen (fun j v hv=>by
     rw[yAv]at hv
     split at hv
     ·rw[List.getElem?_drop]at hv
      rw[A9]
      exact hc _ v hv
     ·simp at hv)
    simp[loadVar,MF ha,lW hs,this]
   ·have h2:=hl.take_drop off n
    exact .agg _ _ h2.1 (fun v hv=>h1 v (List.mem_of_mem_drop (yAy hv))) h2.2
  ·simp at h
 ·rename_i n ha hs
  obtain⟨v,hv,hr⟩:=hl.get h
  exact⟨v,by simp[loadVar,MF ha,hc _ v hv],hr⟩
 ·simp at h
theorem Y7(hs:Sr c){t:TypeId}{a p:PD}(h:o4 P c.σ t a=some p){va:Value}(ha:VR c va a):∃v,(Instr.loadAt t va).run P c.w=.ok v c.w/\VR c v p:=by
 unfold o4 at h
 split at h
 ·rename_i id off
  split at h
  ·rename_i q hq
   obtain⟨b,rfl,hd,_,hr⟩:=ha.rT
   obtain⟨b',cs,T,e1,e2,e3,e4⟩:=hs.box id q hd hq
   rw[hr]at e1
   simp only[Value.pointer.injEq,yAb,Addr.mk.injEq,and_true]at e1
   subst e1
   have hadd:∀j,(⟨b,0,none⟩:Addr).add j=⟨b,j,none⟩:=fun j=>by unfold Addr.add;split<;>simp_all
   obtain⟨v,r,q⟩:=Q0 (P:=P) (w:=c.w) (ad:=⟨b,0,none⟩) e3 e4.1 (fun j v hv=>by
    rw[hadd];simp only[World.cell?,e2];simpa using hv) h
   rw[hadd]at r
   exact⟨v,by simp[Instr.loadAt,Instr.sureAddr,r],q⟩
  ·simp at h
 ·rename_i cs off
  obtain⟨ad,dP,rfl,h1,h2,h3⟩:=ha.ET
  obtain⟨v,r,q⟩:=Q0 (P:=P) (w:=c.w) h1 h2 (fun j v hv=>(h3 j v hv).1) h
  exact⟨v,by simp[Instr.loadAt,Instr.sureAddr,r],q⟩
 ·rename_i id ver off
  split at h
  ·rename_i e sz eR cs hq
   split at h
   ·rename_i hver
    subst hver
    obtain⟨b,rfl,hp⟩:=ha.EJ
    obtain⟨C,hr⟩:=(hp.2 e sz _ cs hq).2 rfl
    obtain⟨b',C',cur,e1,e2,e3,e4,e5,e6,e7,e8⟩:=hs.row id e sz _ cs hp.1 hq
    rw[hr]at e1
    simp only[Value.slice.injEq,yAb,Addr.mk.injEq,and_true,true_and]at e1
    obtain⟨rfl,rfl⟩:=e1
    obtain⟨v,r,q⟩:=Q0 (P:=P) (w:=c.w) (ad:=⟨b,0,none⟩) e7 (fun v hv=>e8 v (yAy hv)) (fun j v hv=>by
     rw[xM];simp only[World.cell?,e2]
     rw[yAv]at hv
     split at hv
     ·simpa using hv
     ·cases hv) h
    rw[xM]at r
    simp only[yAp]at r
    exact⟨v,by simp[Instr.loadAt,Instr.sureAddr,r],q⟩
   ·cases h
  ·cases h
 ·simp at h
theorem wC(w:World)(o:Obj):w.grownBy (w.alloc o) none:=World.grownBy_alloc w o none
theorem aG9{c:Cx}{v:Value}{p:PD}(h:tG v=some p):VR c v (uK p):=by
 by_cases hp:p=.slice 0 [] .full
 ·subst hp
  have hv:v=.slice none 0 0:=by
   unfold tG at h
   split at h<;>first|rfl|(simp at h;done)
  subst hv
  exact .slice none 0 0 0 [] .nil [] rfl (yAk _) (by simp[maxLen]) (by simp) rfl (by simp) (by simp) (by simp) ⟨rfl,rfl,rfl⟩
 ·have:uK p=p:=by
   unfold uK
   split
   ·exact absurd rfl hp
   ·rfl
  rw[this]
  exact(Q3 h).1
theorem aAn{c:Cx}:∀ {vs:List Value} {ps:List PD},tH vs=some ps->aQ c vs (ps.map uK)
 | [],ps,h=>by simp[tH]at h;subst h;exact⟨rfl,by simp⟩
 |v::vs,ps,h=>by
  unfold tH at h
  cases h1:tG v with
  |none=>simp[h1]at h
  |some p=>
   cases h2:tH vs with
   |none=>simp[h1,h2]at h
   |some qs=>
    simp[h1,h2]at h
    subst h
    have a1:=aG9 (c:=c) h1
    obtain⟨b1,b2⟩:=aAn (c:=c) h2
    refine⟨by simpa using b1,fun i v' d hv hd=>?_⟩
    cases i with
    |zero=>simp at hv hd;subst hv;subst hd;exact a1
    |succ i=>exact b2 i v' d (by simpa using hv) (by simpa using hd)
theorem aHa{c:Cx}{v:Value}{p:PD}(t:TypeId)(h:ofValue v=some p):aQ c v.cells.toList (boxed t p).cells:=by
 have h0:=(Q4 (c:=c) h).cells
 cases p with
 |agg cs=>
  show aQ c _ (if LL t=true then PD.typed t (cs.map uK)else PD.agg cs).cells
  by_cases ht:LL t=true
  ·rw[if_pos ht]
   unfold ofValue at h
   split at h
   ·split at h
    ·rename_i ps hps
     simp only[yAb,PD.agg.injEq]at h
     subst h
     exact aAn hps
    ·simp at h
   ·split at h<;>simp at h
   ·unfold tG at h
    split at h<;>simp at h
  ·rw[if_neg ht]
   exact h0
 |_=>exact h0
theorem LY{t:TypeId}{p:PD}(h:eE P t=some p){v:Value}{i:TypeInfo}(hi:P.info? t=some i)(hz:i.zero=some v)(t':TypeId):aQ c v.cells.toList (boxed t' p).cells:=by
 unfold eE at h
 rw[hi]at h
 simp only[hz]at h
 exact aHa t' h
theorem VR.aGz{c:Cx}{v:Value}{t:TypeId}{ds:List PD}(h:VR c v (.typed t ds)):False:=by cases h
theorem LZ{c:Cx}{T t:TypeId}{p:PD}{v:Value}{ds:List PD}(hv:VR c v p)(h:boxed T p=.typed t ds):T=t:=by
 unfold boxed at h
 split at h
 ·split at h
  ·simp only[PD.typed.injEq]at h;exact h.1
  ·cases h
 ·subst h;cases hv
theorem QE(hs:Sr c){p:PD}{v:Value}(hcv:aQ c v.cells.toList p.cells)(h1:∀u∈v.cells.toList,u.oneCell'=true)(T:TypeId)(hT:∀t ds,p=.typed t ds->T=t) :
  (newVar T v).run P c.w=.ok ⟨c.w.heap.size,0,none⟩ (c.w.alloc (.cells v.cells T)) /\
  Leaves fl c (.ptr c.σ.length 0) (c.σ++[.box p]) (.pointer (some ⟨c.w.heap.size,0,none⟩)) (c.w.alloc (.cells v.cells T)):=by
 refine⟨by simp[newVar,newRow],c.push (c.w.alloc (.cells v.cells T)) (.pointer (some ⟨c.w.heap.size,0,none⟩)) (.box p),rfl,rfl,?_,?_,?_,?_⟩
 ·refine Sr.push hs (wC _ _) (fun b hb=>?_) ⟨_,v.cells,T,rfl,heap_alloc_new _ _,hcv,h1,hT⟩
  simp[aV]at hb;subst hb;simp
 ·refine Nx.push hs (wC _ _) (fun b hb=>?_)
  simp[aV]at hb;subst hb;exact yAk _
 ·exact .ptr _ _ _ (.inr rfl) ⟨p,fO.1⟩ fO.2.1
 ·intro id hd
  rcases hd with hd|rfl
  ·exact .inl hd
  ·exact .inr ⟨yAk _,by simp⟩
theorem Z8{q q':PD}{off:Nat}{new:List PD}(h:q.setCells off new=some q')(hn:new.all PD.plain=true):off+new.length<=q.cells.length/\q'.cells=cX q.cells off new:=by
 unfold PD.setCells at h
 split at h
 ·split at h
  ·simp only[yAb]at h;subst h
   exact⟨by simpa [PD.cells],rfl⟩
  ·simp at h
 ·split at h
  ·simp only[yAb]at h;subst h
   exact⟨by simpa [PD.cells],rfl⟩
  ·simp at h
 ·rename_i hne MG
  split at h
  ·rename_i h0
   subst h0
   split at h
   ·rename_i r
    simp only[yAb]at h;subst h
    have hq:q.cells=[q]:=by cases q<;>first|rfl|(exact(hne _ rfl).elim)|(exact(MG _ _ rfl).elim)
    have hr:r.cells=[r]:=by
     have:r.plain=true:=by simpa using hn
     cases r<;>first|rfl|(simp[PD.plain]at this)
    rw[hq,hr]
    exact⟨by simp,by simp[cX]⟩
   ·simp at h
  ·simp at h
theorem Z9{q q':PD}{off:Nat}{new:List PD}(h:q.setCells off new=some q')(hn:new.all PD.plain=true){t:TypeId}{ds:List PD}(e:q'=.typed t ds):∃ds',q=.typed t ds':=by
 subst e
 unfold PD.setCells at h
 split at h
 ·split at h<;>simp at h
 ·split at h
  ·simp only[yAb,PD.typed.injEq]at h
   obtain⟨rfl,_⟩:=h
   exact⟨_,rfl⟩
  ·simp at h
 ·split at h
  ·split at h
   ·simp only[yAb]at h
    subst h
    simp[PD.plain]at hn
   ·simp at h
  ·simp at h
theorem aGy(hs:Sr c){t:TypeId}{a p:PD}{σ':List aB}(h:mC P fl c.σ t a p=some σ'){va v:Value}(ha:VR c va a)(hv:VR c v p) :
  ∃w',(Instr.storeAt t va v).run P c.w=.ok () w'/\Leaves fl c (.aH []) σ' undef w':=by
 unfold mC at h
 split at h
 ·rename_i id off
  split at h
  ·rename_i hfl
   split at h
   ·rename_i q n hq hn
    split at h
    ·rename_i hp
     split at h
     ·rename_i q' eC
      simp only[yAb]at h;subst h
      obtain⟨b,rfl,hd,_,hr⟩:=ha.rT
      obtain⟨b',cs,T,e1,e2,e3,e4⟩:=hs.box id q hd hq
      rw[hr]at e1
      simp only[Value.pointer.injEq,yAb,Addr.mk.injEq,and_true]at e1
      subst e1
      obtain⟨hle,hcq⟩:=Z8 eC hp.2
      have hvc:=hv.cells
      have nY:=aQ.uL hvc hp.2
      have hvl:v.cells.toList.length=n:=by rw[hvc.1];exact hp.1
      have hcl:cs.toList.length=q.cells.length:=e3.1
      have hst:=run_storeCells_at (P:=P) b off T v.cells.toList 0 cs c.w e2 (by have:=hvc.1;simp at hcl ⊢;simp at this;omega) nY
      simp only[Nat.add_zero]at hst
      refine⟨_,?_,c.put (c.w.setRow b (cs.toList.take off++v.cells.toList++cs.toList.drop (off+v.cells.toList.length)).toArray) id (c.ρ id) (.box q'),rfl,rfl,?_,?_,H0 _,fun i hi=>.inl hi⟩
      ·have hsz:v.cells.size=n:=by simpa using hvl
       simp only[Instr.storeAt,Instr.sureAddr,Sem.run_bind,Sem.run_pure,Result.andThen_ok,storeVar,lW hn,hsz,ne_eq,not_true_eq_false,if_false]
       exact hst
      ·refine Sr.zF (T:=T) hs hd hq hr ⟨rfl,rfl,rfl,by simp⟩ (fun k hk=>setRow_other _ _ _ _ hk) (setRow_heap _ _ cs _ T (0,0) e2) ?_ ?_
       ·rw[hcq]
        have:=Q5 e3 hv off (by rw[hvc.1]at hvl;omega)
        simpa using this
       ·refine⟨by have:=HU e4.1 nY off (off+v.cells.toList.length);simpa using this,fun t ds e=>?_⟩
        exact e4.2 t _ (Z9 eC hp.2 e).choose_spec
      ·exact Nx.zF hs hd hq hr hfl ⟨rfl,rfl,rfl,by simp⟩ (fun k hk=>setRow_other _ _ _ _ hk)
     ·simp at h
    ·simp at h
   ·simp at h
  ·simp at h
 ·rename_i id ver off
  split at h
  ·rename_i hfl
   split at h
   ·rename_i e sz eR cs n hq hn
    split at h
    ·rename_i hc
     obtain⟨rfl,hpl,hpp,hle⟩:=hc
     simp only[yAb]at h;subst h
     obtain⟨b,rfl,hp⟩:=ha.EJ
     obtain⟨C,hr⟩:=(hp.2 e sz _ cs hq).2 rfl
     have hvc:=hv.cells
     obtain⟨w',hst,hs',hn'⟩:=MA (P:=P) (fl:=fl) hs hp.1 hq hr hvc (aQ.uL hvc hpp) (off:=off) (by omega) hfl
     have hsz:v.cells.size=n:=by have:=hvc.1;simp at this;omega
     refine⟨w',?_,_,rfl,rfl,hs',hn',H0 _,fun i hi=>.inl hi⟩
     simp only[Instr.storeAt,Instr.sureAddr,Sem.run_bind,Sem.run_pure,Result.andThen_ok,storeVar,lW hn,hsz,ne_eq,not_true_eq_false,if_false]
     exact hst
    ·simp at h
   ·simp at h
  ·simp at h
 ·simp at h
end
end
section
open Go.RowKit
section
variable{P:Program}{c:Cx}{fl:Nat}
theorem aAh{c':Cx}{e:TypeId}{size n m:Nat}{v':Value}{xs ys:List PD}{flx fly:List Value}{tok:Tok}(hnx:n=xs.length)(hmy:m=ys.length)(hpos:0<n+m)
  (hx:∀x∈xs,x.cells.length=size) (hy:∀x∈ys,x.cells.length=size) (hlx:flx.length=n*size)
  (BS:∀v∈flx,v.oneCell'=true) (QL:∀v∈fly,v.oneCell'=true)
  (hrx:∀(j:Nat) (v:Value) (d:PD),flx[j]?=some v->(xs.flatMap PD.cells)[j]?=some d->VR c' v d)
  (hry:∀(j:Nat) (v:Value) (d:PD),fly[j]?=some v->(ys.flatMap PD.cells)[j]?=some d->VR c' v d)
  (hown:c'.w.ownsRowF 0 e size v' (n+m) (flx++fly))
  (hav:∀g j,aV v'=some g->j<(n+m)*size->c'.av ⟨g,j,none⟩)
  (htok:∀cap,v'=.slice (match v' with|.slice A _ _=>A|_=>none) (n+m) cap->qB c' size (n+m) cap v' tok) :
  VR c' v' (.slice size (xs++ys) tok):=by
 rcases hown.2 with⟨rfl,h0⟩ | ⟨g,cap,cur,fz,rfl,_,hg,_,hnc,hcm,hcs,htake⟩
 ·omega
 ·have hlen:(flx++fly).length=(n+m)*size:=hown.1
  have hle:(n+m)*size<=cur.toList.length:=by simp[hcs];exact Nat.mul_le_mul_right _ hnc
  refine .slice _ (n+m) cap size (xs++ys) tok (flx++fly) (by simp[hnx,hmy]) hnc hcm ?_ hlen ?_ ?_ ?_ (htok cap rfl)
  ·intro x hx'
   rcases List.mem_append.1 hx' with h|h
   ·exact hx x h
   ·exact hy x h
  ·intro v hv
   rcases List.mem_append.1 hv with h|h
   ·exact BS v h
   ·exact QL v h
  ·intro j v hv
   have hj:j<(n+m)*size:=by rw[<-hlen];exact(yA.1 hv).1
   refine⟨⟨g,0,none⟩,rfl,?_,?_⟩
   ·have hadd:(⟨g,0,none⟩:Addr).add j=⟨g,j,none⟩:=by unfold Addr.add;split<;>simp_all
    rw[hadd]
    rw[<-htake,yAv,if_pos hj]at hv
    simp only[World.cell?,hg]
    simpa using hv
   ·have hadd:(⟨g,0,none⟩:Addr).add j=⟨g,j,none⟩:=by unfold Addr.add;split<;>simp_all
    rw[hadd]
    exact hav g j rfl hj
  ·intro j v d hv hd
   rw[List.flatMap_append]at hd
   have hfx:(xs.flatMap PD.cells).length=flx.length:=by rw[zB xs hx,hlx,hnx]
   rw[List.getElem?_append]at hv hd
   by_cases h:j<flx.length
   ·rw[if_pos h]at hv;rw[if_pos (by rw[hfx];exact h)]at hd;exact hrx j v d hv hd
   ·rw[if_neg h]at hv;rw[if_neg (by rw[hfx];exact h),hfx]at hd;exact hry _ v d hv hd
theorem H5{c':Cx}{a:Addr}(hX:c'.X a)(h:∀id o,c'.D id->c'.σ[id]?=some o->aV (c'.ρ id)=some a.block->∃e size n,o=.own e size n/\a.off<n*size):c'.av a:=by
 refine⟨hX,fun id o hd ho=>?_⟩
 cases o with
 |none=>trivial
 |box p=>
  intro b hb hab
  obtain⟨_,_,_,e,_⟩:=h id _ hd ho (by rw[hb,hab])
  cases e
 |own e size n=>
  intro b hb hab
  obtain⟨_,_,_,e',hlt⟩:=h id _ hd ho (by rw[hb,hab])
  cases e'
  exact hlt
 |row e size ver ds=>
  intro b hb hab
  obtain⟨_,_,_,e',_⟩:=h id _ hd ho (by rw[hb,hab])
  cases e'
 |map es=>trivial
 |mark=>trivial
 |loop st fr ps asg bd=>trivial
theorem QW{w:World}{e:TypeId}{size n:Nat}{v:Value}{xs:List Value}(h:w.ownsRowF 0 e size v n xs){b:Nat}(hb:aV v=some b):b<w.heap.size:=by
 rcases h.2 with⟨rfl,_⟩ | ⟨g,cap,cur,fz,rfl,_,hg,_⟩
 ·simp[aV]at hb
 ·simp[aV]at hb;subst hb;exact gJ hg
def Xw(fl:Nat)(c:Cx):Prop:=∀id g,c.D id->fl<=id->aV (c.ρ id)=some g->∀a:Addr,a.block=g->c.X a
theorem Xw.next{c':Cx}(h:Xw fl c)(hs:Sr c)(nx:Nx fl c c'):Xw fl c':=by
 intro id g hd hf hb a ha
 rw[nx.X]
 rcases Nat.lt_or_ge g c.w.heap.size with hlt|hge
 ·obtain⟨q1,q2⟩:=nx.back id g hd hb hlt
  exact h id g q1 hf q2 a ha
 ·exact hs.fresh a (by omega)
theorem aG0{w:World}{e:TypeId}{size n cap:Nat}{A:Option Addr}{nZ flx:List Value}(h:w.ownsRowF 0 e size (.slice A n cap) n nZ)(hl:flx.length=n*size)
  (hc:∀(j:Nat) (v:Value),flx[j]?=some v->∃ad,A=some ad/\w.cell? (ad.add j)=some v):flx=nZ:=by
 apply List.ext_getElem?
 intro j
 rcases h.2 with⟨hv,h0⟩ | ⟨g,cap',cur,fz,hv,_,hg,_,hnc,_,hcs,htake⟩
 ·have e1:flx=[]:=yAf (by rw[hl,h0];simp)
  have e2:nZ=[]:=yAf (by rw[h.1,h0];simp)
  rw[e1,e2]
 ·simp only[Value.slice.injEq]at hv
  obtain⟨rfl,_,rfl⟩:=hv
  by_cases hj:j<n*size
  ·have hj':j<flx.length:=by rw[hl];exact hj
   obtain⟨ad,e,hcell⟩:=hc j flx[j] (by simp[hj'])
   cases e
   have hadd:(⟨g,0,none⟩:Addr).add j=⟨g,j,none⟩:=by unfold Addr.add;split<;>simp_all
   rw[hadd]at hcell
   simp only[World.cell?,hg]at hcell
   rw[<-htake,yAv,if_pos hj]
   rw[yAh hj']
   simpa using hcell.symm
  ·rw[List.getElem?_eq_none (by rw[hl];omega),List.getElem?_eq_none (by rw[h.1];omega)]
structure Src (P:Program) (w:World) (t u ty e:TypeId) (i:TypeInfo) (vx:Value) (m:Nat) (fly:List Value):Prop where
 none_:m=0->∀(A:Option Addr) (n cap:Nat),n<=cap->(Builtin.append_ #[t,u] ty #[.slice A n cap,vx]).run P w=.ok (.slice A n cap) w
 grow:0<m->∀(A:Option Addr) (n cap:Nat) (flx:List Value),(A=none->n=0/\cap=0)->flx.length=n*i.size->(∀(j:Nat) (v:Value),flx[j]?=some v->∃ad,A=some ad/\w.cell? (ad.add j)=some v) ->
  cap<n+m->n+m<=maxLen->(n+m)*i.bytes<=140737488355328 ->
  ∃v' w',(Builtin.append_ #[t,u] ty #[.slice A n cap,vx]).run P w=.ok v' w'/\w'.ownsRowF 0 e i.size v' (n+m) (flx++fly)/\w.grownBy w' none/\∀b,aV v'=some b->w.heap.size<=b
 spare:∀(g n cap:Nat) (flx:List Value),w.ownsRowF 0 e i.size (.slice (some ⟨g,0,none⟩) n cap) n flx->n+m<=cap ->
  ∃w',(Builtin.append_ #[t,u] ty #[.slice (some ⟨g,0,none⟩) n cap,vx]).run P w=.ok (.slice (some ⟨g,0,none⟩) (n+m) cap) w' /\
   w'.ownsRowF 0 e i.size (.slice (some ⟨g,0,none⟩) (n+m) cap) (n+m) (flx++fly)/\w.grownBy w' (some g)
theorem aAi{w:World}{b:Nat}{e:TypeId}{size n:Nat}{v:Value}{xs:List Value}(h:w.ownsRow b e size v n xs):w.ownsRowF 0 e size v n xs:=
 ⟨h.1,h.2.imp (fun q=>q) (fun⟨g,cp,cur,q1,_,q2,q3⟩=>⟨g,cp,cur,(0,0),q1,yBf _,q2,yBf _,q3⟩)⟩
theorem aAj{w:World}{b:Nat}{e:TypeId}{size n:Nat}{v:Value}{xs:List Value}(h:w.ownsRow b e size v n xs):∀k,aV v=some k->b<=k:=by
 intro k hb
 rcases h.2 with⟨rfl,_⟩ | ⟨g,cp,cur,rfl,hge,_⟩
 ·simp[aV]at hb
 ·simp[aV]at hb;omega
theorem aG1{w:World}{b:Nat}{e:TypeId}{size n:Nat}{v:Value}{xs:List Value}(h:w.ownsRowF b e size v n xs):∀k,aV v=some k->b<=k:=by
 intro k hb
 rcases h.2 with⟨rfl,_⟩ | ⟨g,cp,cur,fz,rfl,hge,_⟩
 ·simp[aV]at hb
 ·simp[aV]at hb;omega
theorem aG2{w:World}{b:Nat}{e:TypeId}{size n:Nat}{v:Value}{xs:List Value}(h:w.ownsRowF b e size v n xs):w.ownsRowF 0 e size v n xs:=
 ⟨h.1,h.2.imp (fun q=>q) (fun⟨g,cp,cur,fz,q1,_,q2⟩=>⟨g,cp,cur,fz,q1,yBf _,q2⟩)⟩
theorem aG3{w:World}{t ty e:TypeId}{i:TypeInfo}{z:Value}(hu:P.underlying t=some (.slice e))(hi:P.info? e=some i)(hz:i.zero=some z)(hzs:z.cells.size=i.size)(hpos:0<i.size){B:Option Addr}{m c':Nat}{fly:List Value}
  (hl:fly.length=m*i.size) (h1:∀v∈fly,v.oneCell'=true) (hb:∀(j:Nat) (v:Value),fly[j]?=some v->∃ad,B=some ad/\w.cell? (ad.add j)=some v):Src P w t t ty e i (.slice B m c') m fly where
 none_:=fun h0 A n cap hn=>by
  subst h0
  have hfy:(Builtin.firstCells i.size 0 (.slice B 0 c')).run P w=.ok #[] w:=by
   cases B<;>simp[Builtin.firstCells,loadCells,loadCellsFrom]
  cases A<;>simp[Builtin.append_,run_underlying hu,sizeOf,typeInfo,hi,Builtin.lenOf,hfy,hn,storeCells]
 grow:=fun hm A n cap flx hA hlx hc hcap hmax hby=>by
  have QM:0<fly.length:=by rw[hl];exact Nat.mul_pos hm hpos
  obtain⟨bd,rfl,_⟩:=hb 0 fly[0] (by simp[QM])
  have hnews:∀(j:Nat) (u:Value),fly[j]?=some u->w.cell? (bd.add j)=some u:=fun j u hj=>by
   obtain⟨ad,e',h9⟩:=hb j u hj
   cases e';exact h9
  cases A with
  |none=>
   obtain⟨rfl,rfl⟩:=hA rfl
   have BT:flx=[]:=yAf (by rw[hlx];simp)
   subst BT
   obtain⟨v',w',r,h2,h3,h4,h5⟩:=run_append_own_at (P:=P) w w.heap.size t ty e i z i.size i.bytes hu hi hz rfl rfl hzs hpos (.slice none 0 0) 0 [] (World.ownsRow_nil _ _ _ _)
    bd m c' fly hl hnews h1 (by omega) (by simpa using hby) (yAk _)
   exact⟨v',w',r,aAi h2,h3,aAj h2⟩
  |some ad=>
   have holds:∀(j:Nat) (u:Value),flx[j]?=some u->w.cell? (ad.add j)=some u:=fun j u hj=>by
    obtain⟨L9,e',h9⟩:=hc j u hj
    cases e';exact h9
   obtain⟨v',w',r,h2,h3⟩:=run_append_arg_grows (P:=P) w t ty e i z i.size i.bytes hu hi hz rfl rfl hzs hpos ad n cap flx hlx holds bd m c' fly hl hnews hcap hmax hby
   exact⟨v',w',r,aAi h2,h3,aAj h2⟩
 spare:=fun g n cap flx hown hroom=>by
  rcases hown.2 with⟨h0,_⟩ | ⟨g',cap',cur,fz,hv,hbg,hg,hfz,hnc,hcm,hcs,htake⟩
  ·cases h0
  ·cases hv
   have hlen:(flx++fly).length=(n+m)*i.size:=by rw[yAa,hown.1,hl,Nat.add_mul]
   have hfit:n*i.size+fly.length<=cur.size:=by rw[hl,hcs,<-Nat.add_mul];exact Nat.mul_le_mul_right _ hroom
   have hst:=run_storeCells_atF P g (n*i.size) e fz fly 0 cur w hg (by simpa using hfz) (by simpa using hfit) h1
   simp only[Nat.add_zero]at hst
   have hf:(Builtin.firstCells i.size m (.slice B m c')).run P w=.ok fly.toArray w:=by
    cases B with
    |none=>
     have:fly=[]:=by
      cases fly with
      |nil=>rfl
      |cons x xs=>obtain⟨_,e',_⟩:=hb 0 x rfl;cases e'
     subst this
     simp[Builtin.firstCells]
    |some bd=>
     simp only[Builtin.firstCells]
     exact EM hl fun j v hj=>by
      obtain⟨ad,e',h9⟩:=hb j v hj
      cases e';exact h9
   have hr:(Builtin.append_ #[t,t] ty #[.slice (some ⟨g,0,none⟩) n cap,.slice B m c']).run P w =
     .ok (.slice (some ⟨g,0,none⟩) (n+m) cap) (w.setRow g (cur.toList.take (n*i.size)++fly++cur.toList.drop (n*i.size+fly.length)).toArray):=by
    simp[Builtin.append_,run_underlying hu,sizeOf,typeInfo,hi,Builtin.lenOf,hroom,hf,Addr.add_lit,hst]
   refine⟨_,hr,⟨hlen,.inr ⟨g,cap,_,fz,rfl,hbg,setRow_heap w g cur _ e _ hg,?_,hroom,hcm,?_,?_⟩⟩,⟨rfl,rfl,rfl,by simp,fun k _ hk=>setRow_other w g k _ (fun e=>hk (by simp[e]))⟩⟩
   ·exact Nat.le_trans hfz (Nat.mul_le_mul_right _ (by omega))
   ·simp only[List.size_toArray,yAa,yAt,List.length_drop,Array.length_toList]
    omega
   ·rw[htake,<-hlen]
    exact List.take_left
theorem Z4{w:World}{t u ty e:TypeId}{i:TypeInfo}(hu:P.underlying t=some (.slice e))(hs:P.underlying u=some .string)(hi:P.info? e=some i)(hz:i.zero=some (.int .u8 0))(hsz:i.size=1)(hby:i.bytes=1)(l:List UInt8) :
  Src P w t u ty e i (.string ⟨l.toArray⟩) l.length (l.map fun b=>.int .u8 b.toNat):=by
 have hsl:(ByteArray.mk l.toArray).size=l.length:=by simp[ByteArray.size]
 have hcl:Lib.strCells ⟨l.toArray⟩=l.map fun b=>Value.int .u8 b.toNat:=by simp[Lib.strCells]
 refine⟨fun h0 A n cap hn=>?_,fun hm A n cap flx hA hlx hc hcap hmax hb=>?_,fun g n cap flx hown hroom=>?_⟩
 ·have:l=[]:=yAf h0
  subst this
  have hfy:(Builtin.firstCells i.size 0 (.string ⟨#[]⟩)).run P w=.ok #[] w:=by simp[Builtin.firstCells]
  have hl0:(ByteArray.mk (#[]:Array UInt8)).size=0:=rfl
  cases A<;>simp[Builtin.append_,run_underlying hu,run_underlying hs,sizeOf,typeInfo,hi,Builtin.lenOf,hl0,hfy,hn,storeCells]
 ·cases A with
  |none=>
   obtain⟨rfl,rfl⟩:=hA rfl
   have BT:flx=[]:=yAf (by rw[hlx];simp)
   subst BT
   obtain⟨v',w',r,h2,h3,_⟩:=Lib.run_append_own_stringF (P:=P) w w.heap.size t u ty e i hu hs hi hz hsz hby (.slice none 0 0) 0 [] (World.ownsRowF_nil _ _ _ _) ⟨l.toArray⟩ (by omega) (by rw[hsl];rw[hby]at hb;omega) (yAk _)
   rw[hsl,hcl]at h2
   rw[hsz]
   exact⟨v',w',r,aG2 h2,h3,aG1 h2⟩
  |some ad=>
   have holds:∀(j:Nat) (u:Value),flx[j]?=some u->w.cell? (ad.add j)=some u:=fun j u hj=>by
    obtain⟨L9,e',h9⟩:=hc j u hj
    cases e';exact h9
   have hr:=Lib.run_append_grow_string (P:=P) w t u ty e i (.int .u8 0) hu hs hi hz ad n cap flx hlx holds ⟨l.toArray⟩ (by omega) (by rw[hsl];simp only[maxLen]at hmax;omega) (by rw[hby,hsl];exact growslice_fits (by omega) (by rw[hby]at hb;omega))
   rw[hsl]at hr
   have hge:=grownCap_ge w (n+l.length) cap e
   have aG4:grownCap w (n+l.length) cap e<=maxLen:=grownCap_le_maxLen w (n+l.length) cap e hmax
   refine⟨_,_,hr,⟨by simp[hlx,hsz],.inr ⟨w.heap.size,_,_,(0,0),rfl,yBf _,heap_alloc_new w.drew _,yBf _,hge,aG4,?_,?_⟩⟩,⟨rfl,rfl,rfl,by simp,fun k hk _=>heap_alloc_old w.drew _ hk⟩,fun b hb'=>by simp[aV]at hb';omega⟩
   ·have gL:(Value.int IntKind.u8 0).cells.size=1:=rfl
    rw[hsz]at hlx
    simp only[Array.size_append,List.size_toArray,size_zeroCells,gL,hlx,hcl,yAe,hsz]
    omega
   ·rw[hcl,hsz]
    simp only[Array.toList_append,yAi]
    rw[<-yAi]
    have:(n+l.length)*1=(flx++l.map fun b=>Value.int .u8 b.toNat).length:=by rw[yAa,hlx,hsz,yAe];omega
    rw[this]
    exact List.take_left
 ·rcases hown.2 with⟨h0,_⟩ | ⟨g',cap',cur,fz,hv,hbg,hg,hfz,hnc,hcm,hcs,htake⟩
  ·cases h0
  ·cases hv
   rw[hsz]at hown hfz hcs htake
   have hxl:flx.length=n:=by simpa using hown.1
   have hr:=Lib.run_append_room_stringF (P:=P) w t u ty e i hu hs hi hsz g n cap cur fz hg (by simpa using hfz) ⟨l.toArray⟩ (by rw[hsl];exact hroom) (by rw[hsl];omega)
   rw[hsl,hcl]at hr
   have hlen:(flx++l.map fun b=>Value.int .u8 b.toNat).length=(n+l.length)*1:=by rw[yAa,hxl,yAe,Nat.mul_one]
   rw[hsz]
   refine⟨_,hr,⟨hlen,.inr ⟨g,cap,_,fz,rfl,hbg,setRow_heap w g cur _ e _ hg,by omega,hroom,hcm,?_,?_⟩⟩,⟨rfl,rfl,rfl,by simp,fun k _ hk=>setRow_other w g k _ (fun e=>hk (by simp[e]))⟩⟩
   ·simp only[List.size_toArray,yAa,yAt,List.length_drop,Array.length_toList,yAe]
    omega
   ·have ht':cur.toList.take n=flx:=by simpa using htake
    rw[ht',<-hlen]
    exact List.take_left
theorem aAk(hs:Sr c)(hX:Xw fl c){t u ty:TypeId}{s p:PD}{sz':Nat}{ys:List PD}{bQ:Tok}{σ':List aB}(hnn:∀n xs,s≠.slice n xs .nil)(h:fZ P fl c.σ t s (.slice sz' ys bQ)=some (p,σ')){vs vx:Value}(hvs:VR c vs s){fly:List Value}
  (b3:∀x∈ys,x.cells.length=sz') (b5:∀v∈fly,v.oneCell'=true) (b7:∀(j:Nat) (v:Value) (d:PD),fly[j]?=some v->(ys.flatMap PD.cells)[j]?=some d->VR c v d)
  (hsrc:∀e i z,P.underlying t=some (.slice e)->P.info? e=some i->i.zero=some z->z.cells.size=i.size->0<i.size->(ys.length=0\/sz'=i.size)->Src P c.w t u ty e i vx ys.length fly) :
  ∃v w',(Builtin.append_ #[t,u] ty #[vs,vx]).run P c.w=.ok v w'/\Leaves fl c p σ' v w':=by
 unfold fZ at h
 split at h
 ·rename_i e hu
  split at h
  ·rename_i i hi
   split at h
   ·rename_i z sz xs tok xG ys1 aRX hz hxx
    simp only[PD.slice.injEq]at hxx
    obtain⟨rfl,rfl,rfl⟩:=hxx
    split at h
    ·rename_i hc
     obtain⟨hsz,BU,hpos,hzs,hmax,hby⟩:=hc
     obtain⟨A,cap,flx,rfl,a1,a2,a3,a4,a5,a6,a7,a8⟩:=hvs.nW
     have src:=hsrc e i z hu hi hz hzs hpos BU
     by_cases hy0:ys.length=0
     ·
      rw[if_pos hy0]at h
      simp only[yAb,yAc]at h
      obtain⟨rfl,rfl⟩:=h
      exact⟨.slice A xs.length cap,c.w,src.none_ hy0 A _ cap a1,c,rfl,rfl,hs,.refl _ _,hvs,fun _ h=>.inl h⟩
     ·rw[if_neg hy0]at h
      have hypos:0<ys.length:=Nat.pos_of_ne_zero hy0
      have aG5:sz'=i.size:=BU.resolve_left hy0
      subst aG5
      have hcells:∀(j:Nat) (v:Value),flx[j]?=some v->∃ad,A=some ad/\c.w.cell? (ad.add j)=some v:=fun j v hj=>by
       obtain⟨ad,q1,q2,_⟩:=a6 j v hj
       exact⟨ad,q1,q2⟩
      cases tok with
      |any=>simp at h
      |pE=>simp at h
      |qY=>simp at h
      |nil=>exact absurd rfl (hnn _ _)
      |full=>
       simp only[yAb,yAc]at h
       obtain⟨rfl,rfl⟩:=h
       simp only[qB]at a8
       have hx3:∀x∈xs,x.cells.length=i.size:=fun x hx=>by
        have:xs.length≠0:=by intro e0;rw[List.length_eq_zero_iff.1 e0]at hx;cases hx
        rw[<-hsz.resolve_left this];exact a3 x hx
       have QZ:flx.length=xs.length*i.size:=by
        rcases hsz with h0|h0
        ·rw[a4,h0];simp
        ·rw[a4,h0]
       have hA:A=none->xs.length=0/\cap=0:=by
        rintro rfl
        have hx0:xs.length=0:=by
         rcases Nat.eq_zero_or_pos xs.length with h0|h0
         ·exact h0
         ·have:0<flx.length:=by rw[QZ];exact Nat.mul_pos h0 hpos
          obtain⟨ad,e',_⟩:=a6 0 flx[0] (by simp[this])
          cases e'
        exact⟨hx0,by omega⟩
       obtain⟨v',w',r,hown,hgr,hnew⟩:=src.grow hypos A xs.length cap flx hA QZ hcells (by omega) hmax hby
       refine⟨v',w',r,c.push w' v' (.own e i.size (xs.length+ys.length)),rfl,rfl,?_,?_,?_,?_⟩
       ·exact Sr.push hs hgr (fun b hb=>⟨hnew b hb,QW hown hb⟩) ⟨_,hown⟩
       ·exact Nx.push hs hgr hnew
       ·have nx:Nx 0 c (c.push w' v' (.own e i.size (xs.length+ys.length))):=Nx.push hs hgr hnew
        refine aAh (e:=e) (flx:=flx) (fly:=fly) rfl rfl (by omega) hx3 b3 QZ a5 b5 (fun j v d q1 q2=>(a7 j v d q1 q2).mono nx) (fun j v d q1 q2=>(b7 j v d q1 q2).mono nx) hown ?_ ?_
        ·intro g j hg hj
         refine H5 (hs.fresh _ (hnew g hg)) (fun id o hd ho hb=>?_)
         rcases hd with hd|rfl
         ·rw[oD hs hd]at hb
          have:=hs.lt id g hd hb
          have:=hnew g hg
          omega
         ·rw[fO.1]at ho
          simp only[yAb]at ho
          exact⟨_,_,_,ho.symm,hj⟩
        ·intro cp _
         exact⟨.inr rfl,e,_,fO.1,yAk _,fun _=>fO.2.1⟩
       ·intro id hd
        rcases hd with hd|rfl
        ·exact .inl hd
        ·exact .inr ⟨yAk _,by simp⟩
      |own id=>
       simp only at h
       split at h
       ·rename_i hflid
        split at h
        ·rename_i e' j8 n hq
         split at h
         ·rename_i hcc
          obtain⟨he,rfl,rfl⟩:=hcc
          have he:=he.symm
          subst he
          simp only[yAb,yAc]at h
          obtain⟨rfl,rfl⟩:=h
          obtain⟨hfl,rfl⟩:=hflid
          obtain⟨hd,e0,m0,eC,hle,hρ⟩:=a8
          rw[hq]at eC
          simp only[yAb,aB.own.injEq]at eC
          obtain⟨rfl,_,rfl⟩:=eC
          have aAl:=hρ rfl
          obtain⟨nZ,ME⟩:=hs.own id _ _ _ hd hq
          rw[aAl]at ME
          have hfx:flx=nZ:=aG0 ME a4 hcells
          subst hfx
          have hrun:∃v' w',(Builtin.append_ #[t,u] ty #[.slice A xs.length cap,vx]).run P c.w=.ok v' w' /\
            w'.ownsRowF 0 e i.size v' (xs.length+ys.length) (flx++fly)/\(w'.os=c.w.os/\w'.tape=c.w.tape/\w'.output=c.w.output/\c.w.heap.size<=w'.heap.size) /\
            (∀k,k<c.w.heap.size->aV (c.ρ id)≠some k->w'.heap[k]?=c.w.heap[k]?) /\
            (∀(a:Addr) (u:Value),(∀b,aV (c.ρ id)=some b->a.block=b->a.off<xs.length*i.size)->c.w.cell? a=some u->w'.cell? a=some u) /\
            (aV v'=aV (c.ρ id)\/∀b,aV v'=some b->c.w.heap.size<=b):=by
           rw[aAl]
           have hgrow:cap<xs.length+ys.length->(A=none->xs.length=0/\cap=0)->∃v' w',(Builtin.append_ #[t,u] ty #[.slice A xs.length cap,vx]).run P c.w=.ok v' w' /\
             w'.ownsRowF 0 e i.size v' (xs.length+ys.length) (flx++fly)/\(w'.os=c.w.os/\w'.tape=c.w.tape/\w'.output=c.w.output/\c.w.heap.size<=w'.heap.size) /\
             (∀k,k<c.w.heap.size->aV (.slice A xs.length cap)≠some k->w'.heap[k]?=c.w.heap[k]?) /\
             (∀(a:Addr) (u:Value),(∀b,aV (.slice A xs.length cap)=some b->a.block=b->a.off<xs.length*i.size)->c.w.cell? a=some u->w'.cell? a=some u) /\
             (aV v'=aV (.slice A xs.length cap)\/∀b,aV v'=some b->c.w.heap.size<=b):=fun hcap hA=>by
            obtain⟨v',w',r,h2,h3,h4⟩:=src.grow hypos A xs.length cap flx hA a4 hcells hcap hmax hby
            refine⟨v',w',r,h2,⟨h3.os,h3.tape,h3.output,h3.size⟩,fun k hk _=>h3.block k hk (by simp),fun a u _ mW=>?_,.inr h4⟩
            rw[World.cell?_of_block (h3.block a.block (y7 mW) (by simp))];exact mW
           rcases ME.2 with⟨gH,h0⟩ | ⟨g,aRY,cur,fz,gH,_,hg,hfz,hnc,hcm,hcs,htake⟩
           ·simp only[Value.slice.injEq]at gH
            obtain⟨rfl,_,rfl⟩:=gH
            exact hgrow (by omega) (fun _=>⟨h0,rfl⟩)
           ·simp only[Value.slice.injEq]at gH
            obtain⟨rfl,_,rfl⟩:=gH
            by_cases hroom:xs.length+ys.length<=cap
            ·obtain⟨w',r,h2,h3⟩:=src.spare g xs.length cap flx ME hroom
             refine⟨_,w',r,h2,⟨h3.os,h3.tape,h3.output,h3.size⟩,fun k hk hne=>h3.block k hk (by simpa [aV,eq_comm]using hne),fun a u ha mW=>?_,.inl rfl⟩
             by_cases hag:a.block=g
             ·have hoff:=ha g rfl hag
              rcases h2.2 with⟨nY,_⟩ | ⟨g1,cp1,aG6,fz1,nY,_,lV,_,_,_,_,aG7⟩
              ·simp at nY
              ·simp only[Value.slice.injEq,yAb,Addr.mk.injEq,and_true]at nY
               obtain⟨rfl,_,rfl⟩:=nY
               obtain⟨ab,ao,asp⟩:=a
               simp only at hag hoff
               subst hag
               simp only[World.cell?,hg,lV]at mW ⊢
               split at mW
               ·simp at mW
               ·rename_i hsp
                rw[if_neg hsp]
                have q1:flx[ao]?=some u:=by rw[<-htake,yAv,if_pos hoff];simpa using mW
                have q2:(flx++fly)[ao]?=some u:=by rw[yAg (yA.1 q1).1];exact q1
                rw[<-aG7,yAv]at q2
                split at q2
                ·simpa using q2
                ·simp at q2
             ·rw[World.cell?_of_block (h3.block a.block (y7 mW) (by simpa using hag))];exact mW
            ·exact hgrow (by omega) (fun h=>by cases h)
          obtain⟨v',w',r,hown,h0,h1,h2,h3⟩:=hrun
          have hn:xs.length<xs.length+ys.length:=by omega
          refine⟨v',w',r,c.put w' id v' (.own e i.size (xs.length+ys.length)),rfl,rfl,Sr.H6 hs hd hq hn h0 h1 h2 h3 hown (fun b hb=>QW hown hb),Nx.H6 hs hd hq hfl hn h0 h1 h2 h3,?_,fun _ h=>.inl h⟩
          have nx:Nx 0 c (c.put w' id v' (.own e i.size (xs.length+ys.length))):=Nx.H6 hs hd hq (yBf _) hn h0 h1 h2 h3
          refine aAh (e:=e) (flx:=flx) (fly:=fly) rfl rfl (by omega) a3 b3 a4 a5 b5 (fun j v d q1 q2=>(a7 j v d q1 q2).mono nx) (fun j v d q1 q2=>(b7 j v d q1 q2).mono nx) hown ?_ ?_
          ·intro g j hg hj
           have hXg:c.X ⟨g,j,none⟩:=by
            rcases h3 with h3|h3
            ·exact hX id g hd hfl (by rw[<-h3];exact hg) _ rfl
            ·exact hs.fresh _ (h3 g hg)
           refine H5 hXg (fun i' o hd' ho hb=>?_)
           by_cases e':i'=id
           ·subst e'
            rw[fC (hs.bF i' hd)]at ho
            simp only[yAb]at ho
            exact⟨_,_,_,ho.symm,hj⟩
           ·rw[fU e']at hb
            exfalso
            rcases h3 with h3|h3
            ·exact hs.inj i' id g hd' hd e' hb (by rw[<-h3];exact hg)
            ·have:=h3 g hg
             have:=hs.lt i' g hd' hb
             omega
          ·intro cp _
           exact⟨hd,e,_,fC (hs.bF id hd),yAk _,fun _=>mZ⟩
         ·simp at h
        ·simp at h
       ·simp at h
    ·simp at h
   ·simp at h
  ·simp at h
 ·simp at h
theorem aAm(hs:Sr c)(hX:Xw fl c){t u ty:TypeId}{s p:PD}{sz':Nat}{ys:List PD}{bQ:Tok}{σ':List aB}(h:fZ P fl c.σ t s (.slice sz' ys bQ)=some (p,σ')){vs vx:Value}(hvs:VR c vs s){fly:List Value}
  (b3:∀x∈ys,x.cells.length=sz') (b5:∀v∈fly,v.oneCell'=true) (b7:∀(j:Nat) (v:Value) (d:PD),fly[j]?=some v->(ys.flatMap PD.cells)[j]?=some d->VR c v d)
  (hsrc:∀e i z,P.underlying t=some (.slice e)->P.info? e=some i->i.zero=some z->z.cells.size=i.size->0<i.size->(ys.length=0\/sz'=i.size)->Src P c.w t u ty e i vx ys.length fly) :
  ∃v w',(Builtin.append_ #[t,u] ty #[vs,vx]).run P c.w=.ok v w'/\Leaves fl c p σ' v w':=by
 by_cases hn:∃n xs,s=.slice n xs .nil
 ·obtain⟨n,xs,rfl⟩:=hn
  have aG8:VR c vs (.slice n xs .full):=by
   obtain⟨A,cap,dP,rfl,a1,a2,a3,a4,a5,a6,a7,a8⟩:=hvs.nW
   exact .slice A _ cap n xs .full dP rfl a1 a2 a3 a4 a5 a6 a7 (by obtain⟨_,q1,q2⟩:=a8;show xs.length=cap;omega)
  have h2:∀(h0:ys.length≠0),fZ P fl c.σ t (.slice n xs .full) (.slice sz' ys bQ)=some (p,σ'):=fun h0=>by
   unfold fZ at h ⊢
   cases he:P.underlying t with
   |none=>rw[he]at h;cases h
   |some d=>
    rw[he]at h
    cases d with
    |slice e=>
     simp only at h ⊢
     cases hi:P.info? e with
     |none=>rw[hi]at h;cases h
     |some i=>
      rw[hi]at h
      simp only at h ⊢
      cases hz:i.zero with
      |none=>rw[hz]at h;cases h
      |some z=>
       rw[hz]at h
       simp only[h0,if_false]at h ⊢
       exact h
    |_=>cases h
  by_cases h0:ys.length=0
  ·obtain⟨A,cap,dP,rfl,a1,a2,a3,a4,a5,a6,a7,a8⟩:=hvs.nW
   unfold fZ at h
   split at h
   ·rename_i e he
    split at h
    ·rename_i i hi
     split at h
     ·rename_i z _ _ _ _ _ _ hz ES he3
      simp only[PD.slice.injEq]at ES he3
      obtain⟨rfl,rfl,rfl⟩:=ES
      obtain⟨rfl,rfl,rfl⟩:=he3
      split at h
      ·rename_i hc
       simp only[yAb,yAc]at h
       obtain⟨rfl,rfl⟩:=h
       exact⟨.slice A xs.length cap,c.w,(hsrc e i z he hi hz hc.2.2.2.1 hc.2.2.1 hc.2.1).none_ h0 A _ cap a1,c,rfl,rfl,hs,.refl _ _,hvs,fun _ h=>.inl h⟩
      ·cases h
     ·cases h
    ·cases h
   ·cases h
  ·exact aAk hs hX (fun _ _ e=>by cases e) (h2 h0) aG8 b3 b5 b7 hsrc
 ·exact aAk hs hX (fun n xs e=>hn ⟨n,xs,e⟩) h hvs b3 b5 b7 hsrc
theorem aGK(hs:Sr c)(hX:Xw fl c){t:TypeId}{s x p:PD}{σ':List aB}(h:fZ P fl c.σ t s x=some (p,σ')){vs vx:Value}(hvs:VR c vs s)(hvx:VR c vx x)(ty:TypeId) :
  ∃v w',(Builtin.append_ #[t,t] ty #[vs,vx]).run P c.w=.ok v w'/\Leaves fl c p σ' v w':=by
 have hx:∃sz' ys bQ,x=.slice sz' ys bQ:=by
  unfold fZ at h
  split at h
  ·split at h
   ·split at h
    ·exact⟨_,_,_,rfl⟩
    ·cases h
   ·cases h
  ·cases h
 obtain⟨sz',ys,bQ,rfl⟩:=hx
 obtain⟨B,cap',fly,rfl,b1,b2,b3,b4,b5,b6,b7,b8⟩:=hvx.nW
 refine aAm hs hX h hvs b3 b5 b7 (fun e i z hu hi hz hzs hpos hsz=>?_)
 have hl:fly.length=ys.length*i.size:=by
  rcases hsz with h0|h0
  ·rw[b4,h0];simp
  ·rw[b4,h0]
 exact aG3 hu hi hz hzs hpos hl b5 (fun j v hj=>by obtain⟨ad,q1,q2,_⟩:=b6 j v hj;exact⟨ad,q1,q2⟩)
def wF(l:List UInt8):PD:=.slice (if l.length=0 then 0 else 1) (l.map fun b=>.int .u8 b.toNat) .any
theorem HV:∀l:List UInt8,(l.map fun b=>PD.int .u8 b.toNat).flatMap PD.cells=l.map fun b=>PD.int .u8 b.toNat
 | []=>rfl
 |x::xs=>by
  simp only[List.map_cons,List.flatMap_cons,HV xs]
  rfl
theorem aGM(hs:Sr c)(hX:Xw fl c){t u:TypeId}{s p:PD}{l:List UInt8}{σ':List aB}(hst:P.underlying u=some .string)(hb:p6 P t=true)(h:fZ P fl c.σ t s (wF l)=some (p,σ')){vs:Value}(hvs:VR c vs s)(ty:TypeId) :
  ∃v w',(Builtin.append_ #[t,u] ty #[vs,.string ⟨l.toArray⟩]).run P c.w=.ok v w'/\Leaves fl c p σ' v w':=by
 have hfm:(l.map fun b=>PD.int .u8 b.toNat).flatMap PD.cells=l.map fun b=>PD.int .u8 b.toNat:=HV l
 have:=aAm (u:=u) (ty:=ty) (vx:=.string ⟨l.toArray⟩) (fly:=l.map fun b=>.int .u8 b.toNat) hs hX h hvs ?_ ?_ ?_ ?_
 ·exact this
 ·intro x hx
  obtain⟨b,hb,rfl⟩:=yAw.1 hx
  have:l.length≠0:=by intro e;rw[List.length_eq_zero_iff.1 e]at hb;cases hb
  rw[if_neg this]
  rfl
 ·intro v hv
  obtain⟨b,_,rfl⟩:=yAw.1 hv
  rfl
 ·intro j v d h1 h2
  rw[hfm]at h2
  rw[yAo]at h1 h2
  cases hj:l[j]? with
  |none=>rw[hj]at h1;simp at h1
  |some b=>
   rw[hj]at h1 h2
   simp only[yBc,yAb]at h1 h2
   subst h1 h2
   exact .int _ _
 ·intro e i z hu hi hz hzs hpos hsz
  simp only[p6,hu,hi,hz]at hb
  rw[yAe]
  split at hb
  ·rename_i heq
   simp only[yAb]at heq
   subst heq
   simp only[yAr,beq_iff_eq]at hb
   exact Z4 hu hst hi hz hb.1 hb.2 l
  ·cases hb
end
end
section
open Go.RowKit
section
variable{P:Program}{c:Cx}{fl:Nat}
theorem aAf{n:Nat}:∀(parts:List (Nat×PD)) (i:Nat) (ps z:List PD),EB i parts=some ps->(∀p∈ps,p.cells.length=n/\p.cells.all PD.plain=true)->(i+ps.length)*n<=z.length ->
  v8 (fun i=>some (i*n,n)) z parts=some (z.take (i*n)++ps.flatMap PD.cells++z.drop ((i+ps.length)*n))
 | [],i,ps,z,h,_,_=>by simp[EB]at h;subst h;simp[v8]
 |(j,p)::parts,i,ps,z,h,hp,hl=>by
  unfold EB at h
  split at h
  ·rename_i hj
   subst hj
   split at h
   ·rename_i qs hq
    simp only[yAb]at h;subst h
    obtain⟨eQ,rX⟩:=hp p (by simp)
    have hle:(j+1+qs.length)*n<=z.length:=by simpa [Nat.add_assoc,Nat.add_comm 1]using hl
    have hjn:j*n+n<=z.length:=by
     have:(j+1)*n<=(j+1+qs.length)*n:=Nat.mul_le_mul_right _ (by omega)
     rw[Nat.add_mul]at this;omega
    have hz:(cX z (j*n) p.cells).length=z.length:=by simp[cX,eQ];omega
    have ih:=aAf parts (j+1) qs (cX z (j*n) p.cells) hq (fun q eC=>hp q (by simp[eC])) (by rw[hz];exact hle)
    have e1:(cX z (j*n) p.cells).take ((j+1)*n)=z.take (j*n)++p.cells:=by
     unfold cX
     rw[List.take_append_of_le_length (by simp[eQ,Nat.add_mul];omega),yAz (by simp[eQ,Nat.add_mul];omega)]
    have e2:(cX z (j*n) p.cells).drop ((j+1+qs.length)*n)=z.drop ((j+1+qs.length)*n):=by
     have h3:j*n+n<=(j+1+qs.length)*n:=by
      have:(j+1)*n<=(j+1+qs.length)*n:=Nat.mul_le_mul_right _ (by omega)
      rw[Nat.add_mul]at this;omega
     unfold cX
     rw[List.drop_append,yAs (by simp[eQ];omega),List.nil_append,List.drop_drop]
     congr 1
     simp[eQ]
     omega
    unfold v8
    simp only
    rw[if_neg (by simp[eQ,rX];omega),ih,e1,e2]
    simp only[List.flatMap_cons,yAi,List.length_cons]
    rw[show j+1+qs.length=j+(qs.length+1) by omega]
   ·simp at h
  ·simp at h
theorem QU{t:TypeId}{n:Nat}(h:bT P t=some n):∃i,P.info? t=some i/\i.size=n:=MC h
theorem ZY(hs:Sr c){t:TypeId}{len:Nat}{parts:List (Nat×PD)}{vparts:List (Nat×Value)}{p:PD}(h:gG P t len parts=some p)(hl:vparts.length=parts.length)
  (hp:∀(i:Nat) (jv:Nat×Value) (jp:Nat×PD),vparts[i]?=some jv->parts[i]?=some jp->jv.1=jp.1/\VR c jv.2 jp.2) :
  ∃e cells',P.underlying t=some (.slice e)/\(Instr.buildSlice t len vparts.toArray).run P c.w=.ok (.slice (some ⟨c.w.heap.size,0,none⟩) len len) (c.w.alloc (.cells cells' e)) /\
   ∀w'' fz,c.w.grownBy w'' none->w''.heap[c.w.heap.size]?=some (.cells cells' e fz)->VR (c.at w'') (.slice (some ⟨c.w.heap.size,0,none⟩) len len) p:=by
 unfold gG at h
 split at h
 ·rename_i e hu
  split at h
  ·rename_i n z ps hn hz hix
   split at h
   ·rename_i hcond
    obtain⟨hlen,hn0,hsmall,hall,hzl,hzp⟩:=hcond
    simp only[yAb]at h;subst h
    obtain⟨zv,i,hi,hzv,hzr⟩:=yY (c:=c) hz
    have hzc:=hzr.cells
    have hzs:zv.cells.size=n:=by have:=hzc.1;simp at this;omega
    have hps:∀q∈ps,q.cells.length=n/\q.cells.all PD.plain=true:=fun q hq=>by
     have:=yAn.1 hall q hq
     simpa using this
    let z0:List PD:=(List.range (len*n)).map fun k=>z.cells.getD (k%n) (.aH [])
    let c0:Array Value:=(Array.range (len*n)).map fun k=>zv.cells[k%zv.cells.size]!
    have hc0:aQ c c0.toList z0:=by
     refine⟨by simp[c0,z0],fun k v d hv hd=>?_⟩
     simp only[c0,z0,Array.toList_map,Array.toList_range,yAo]at hv hd
     cases hk:(List.range (len*n))[k]? with
     |none=>simp[hk]at hv
     |some k'=>
      have hkm:k'%n<n:=Nat.mod_lt _ hn0
      have kK:k'%n<zv.cells.size:=by omega
      have lX:k'%n<z.cells.length:=by omega
      simp[hk,hzs,lX]at hv hd
      subst hv;subst hd
      exact hzc.2 (k'%n) _ _ (by simp[kK]) (by simp[lX])
    have gL:∀v∈zv.cells.toList,v.oneCell'=true:=aQ.uL hzc hzp
    have dT:∀v∈c0.toList,v.oneCell'=true:=by
     intro v hv
     simp only[c0,Array.toList_map,Array.toList_range,yAw]at hv
     obtain⟨k,_,rfl⟩:=hv
     have kK:k%zv.cells.size<zv.cells.size:=Nat.mod_lt _ (by omega)
     apply gL
     simp[kK]
    have aAg:z0.length=len*n:=by simp[z0]
    have hfi:=aAf (n:=n) parts 0 ps z0 hix hps (by rw[aAg,hlen];simp)
    obtain⟨cells',f1,f2,f3⟩:=MD parts vparts z0 c0 _ hl hp hc0 dT hfi
    have hcs:z0.take (0*n)++ps.flatMap PD.cells++z0.drop ((0+ps.length)*n)=ps.flatMap PD.cells:=by
     rw[yAs (by rw[aAg,hlen];simp)]
     simp
    rw[hcs]at f2
    have hfl:cells'.toList.length=len*n:=by rw[f2.1,zB ps (fun q hq=>(hps q hq).1),hlen]
    refine⟨e,cells',hu,?_,fun w'' fz hgr hnew=>?_⟩
    ·have hln:¬(len*n > 2^24):=by omega
     obtain⟨i',hi',hsz⟩:=QU hn
     have hfz:Instr.fill (fun i=>some (i*n,n)) ((Array.range (len*n)).map fun k=>(if len*n=0 then(#[]:Array Value)else zv.cells)[k%(if len*n=0 then(#[]:Array Value)else zv.cells).size]!) vparts=some cells':=by
      by_cases h0:len*n=0
      ·simp only[h0,if_true]
       have:c0=#[]:=by simp[c0,h0]
       rw[this]at f1
       rw[show(Array.range 0)=#[]from rfl]
       simpa using f1
      ·simp only[h0,if_false]
       exact f1
     simp only[Instr.buildSlice,Sem.run_bind,run_underlying hu,Result.andThen_ok,lW hn,if_neg hln]
     by_cases h0:len*n=0
     ·simp only[h0,if_true]at hfz ⊢
      simp only[Sem.run_bind,Sem.run_pure,Result.andThen_ok,hfz]
      simp[newRow]
     ·simp only[h0,if_false]at hfz ⊢
      have BV:(zeroValue e).run P c.w=.ok zv c.w:=by simp[zeroValue,typeInfo,hi,hzv]
      simp only[Sem.run_bind,Sem.run_pure,Result.andThen_ok,BV,hfz]
      simp[newRow]
    ·have nx:Nx 0 c (c.at w''):=Nx.grow hs hgr
     refine .slice (some ⟨c.w.heap.size,0,none⟩) len len n ps .full cells'.toList hlen.symm (yAk _) ?_ (fun q hq=>(hps q hq).1) hfl f3 ?_ (fun j v d q1 q2=>(f2.2 j v d q1 q2).mono nx) rfl
     ·have:len<=len*n:=Nat.le_mul_of_pos_right _ hn0
      simp only[maxLen];omega
     ·intro j v hv
      have hadd:(⟨c.w.heap.size,0,none⟩:Addr).add j=⟨c.w.heap.size,j,none⟩:=by unfold Addr.add;split<;>simp_all
      refine⟨_,rfl,?_,?_⟩
      ·rw[hadd]
       show w''.cell? _=_
       simp only[World.cell?,hnew];simpa using hv
      ·rw[hadd]
       refine H5 (hs.fresh _ (yAk _)) (fun id o hd ho hb=>?_)
       have:=hs.lt id _ hd hb
       simp at this
   ·simp at h
  ·simp at h
 ·simp at h
theorem aGA(hs:Sr c){t:TypeId}{len:Nat}{parts:List (Nat×PD)}{vparts:List (Nat×Value)}{p:PD}(h:gG P t len parts=some p)(hl:vparts.length=parts.length)
  (hp:∀(i:Nat) (jv:Nat×Value) (jp:Nat×PD),vparts[i]?=some jv->parts[i]?=some jp->jv.1=jp.1/\VR c jv.2 jp.2) :
  ∃v w',(Instr.buildSlice t len vparts.toArray).run P c.w=.ok v w'/\Leaves fl c p c.σ v w':=by
 obtain⟨e,cells',hu,hr,hv⟩:=ZY hs h hl hp
 have hgr:=wC c.w (.cells cells' e)
 exact⟨_,_,hr,c.at (c.w.alloc (.cells cells' e)),rfl,rfl,Sr.grow hs hgr,Nx.grow hs hgr,hv _ (0,0) hgr (heap_alloc_new _ _),fun _ h=>.inl h⟩
theorem run_mark{t e:TypeId}(w:World)(cs:Array Value)(n cap:Nat)(hu:P.underlying t=some (.slice e))(he:P.underlying e=some (.int .u8)) :
  (convert t t (.slice (some ⟨w.heap.size,0,none⟩) n cap)).run P (w.alloc (.cells cs e))=.ok (.slice (some ⟨w.heap.size,0,none⟩) n cap) ((w.alloc (.cells cs e)).freeze ⟨w.heap.size,cs.size,none⟩ 1):=by
 have hsh:(w.alloc (.cells cs e)).shape? w.heap.size=some (e,cs.size):=by simp[World.shape?,World.alloc,-World.alloc_eq]
 simp[convert,run_underlying hu,run_underlying he,markStringish,hsh,Result.andThen]
theorem aGv(w:World)(e:TypeId)(cs:Array Value):∃fz,((w.alloc (.cells cs e)).freeze ⟨w.heap.size,cs.size,none⟩ 1).heap[w.heap.size]?=some (.cells cs e fz):=by
 refine⟨(cs.size,cs.size+1),?_⟩
 simp[World.freeze,World.alloc,-World.alloc_eq]
 rw[Array.getElem_modify_self]
 simp
theorem aGu(w:World)(e:TypeId)(cs:Array Value):w.grownBy ((w.alloc (.cells cs e)).freeze ⟨w.heap.size,cs.size,none⟩ 1) none where
 os:=rfl
 tape:=rfl
 output:=rfl
 size:=by simp[World.freeze,World.alloc,-World.alloc_eq]
 block:=fun k hk _=>by
  have h1:w.heap.size≠k:=by omega
  simp[World.freeze,World.alloc,-World.alloc_eq,Array.getElem?_modify,Array.getElem?_push,h1,Ne.symm h1]
theorem aGZ(w:World)(e:TypeId)(s:ByteArray):w.grownBy (Lib.bytesWorld w e s) none where
 os:=rfl
 tape:=rfl
 output:=rfl
 size:=by rw[Lib.bytesWorld_size];omega
 block:=fun k hk _=>Lib.bytesWorld_at_old w e s k hk
theorem QX:∀ {xs:List PD} {l:List UInt8},rO xs=some l->∃ns:List Int,xs=ns.map (PD.int .u8)/\l=ns.map fun n=>UInt8.ofNat n.toNat
 | [],l,h=>by simp only[rO,yAb]at h;subst h;exact⟨[],rfl,rfl⟩
 |x::xs,l,h=>by
  unfold rO at h
  split at h
  ·rename_i h0;cases h0
  ·rename_i n r h0
   simp only[List.cons.injEq]at h0
   obtain⟨rfl,rfl⟩:=h0
   split at h
   ·rename_i l' hl
    simp only[yAb]at h
    obtain⟨ns,rfl,rfl⟩:=QX hl
    exact⟨n::ns,rfl,h.symm⟩
   ·cases h
  ·cases h
theorem QY:∀(ns:List Int) (s:ByteArray),ns.foldl (fun r n=>r.push (UInt8.ofNat n.toNat)) s=⟨s.data++(ns.map fun n=>UInt8.ofNat n.toNat).toArray⟩
 | [],s=>by simp
 |n::ns,s=>by
  rw[List.foldl_cons,QY ns]
  simp[ByteArray.push]
theorem aGB(hs:Sr c){s d:TypeId}{x p:PD}(h:HD P s d x=some p){vx:Value}(hx:VR c vx x):∃v w',(convert s d vx).run P c.w=.ok v w'/\Leaves fl c p c.σ v w':=by
 unfold HD at h
 split at h
 ·rename_i e l hu hd
  split at h
  ·rename_i he
   split at h
   ·rename_i hl
    simp only[yAb]at h
    subst h
    have hv:=hx.qA
    subst hv
    have hsz:(ByteArray.mk l.toArray).size=l.length:=by simp[ByteArray.size]
    have hgr:=aGZ c.w e ⟨l.toArray⟩
    have r:=Lib.run_convert_string_bytes (P:=P) c.w s d e ⟨l.toArray⟩ hu hd he
    have hge:=grownCap_ge c.w l.length 0 e
    have hcm:=grownCap_le_maxLen c.w l.length 0 e hl
    rw[hsz]at r
    refine⟨_,_,r,c.at (Lib.bytesWorld c.w e ⟨l.toArray⟩),rfl,rfl,Sr.grow hs hgr,Nx.grow hs hgr,?_,fun _ h=>.inl h⟩
    refine .slice (some ⟨c.w.heap.size,0,none⟩) l.length _ 1 _ .any (l.map fun b=>Value.int .u8 b.toNat) (by simp) hge hcm (fun q hq=>?_) (by simp) (fun v hv=>?_) (fun j v hv=>?_) (fun j v q q1 q2=>?_) trivial
    ·obtain⟨b,_,rfl⟩:=yAw.1 hq
     rfl
    ·obtain⟨b,_,rfl⟩:=yAw.1 hv
     rfl
    ·have hadd:(⟨c.w.heap.size,0,none⟩:Addr).add j=⟨c.w.heap.size,j,none⟩:=by unfold Addr.add;split<;>simp_all
     refine⟨_,rfl,?_,?_⟩
     ·rw[hadd]
      have hj:j<l.length:=by simpa using(yA.1 hv).1
      have:=Lib.bytesWorld_cell c.w e ⟨l.toArray⟩ j (by rw[hsz];exact hj)
      show(Lib.bytesWorld c.w e ⟨l.toArray⟩).cell? _=_
      rw[this]
      rw[yAo,yAh hj]at hv
      simp only[yBc,yAb]at hv
      rw[<-hv]
      simp[List.getD,hj]
     ·rw[hadd]
      refine H5 (hs.fresh _ (yAk _)) (fun id o hd ho hb=>?_)
      have:=hs.lt id _ hd hb
      simp at this
    ·have e1:∀l:List UInt8,(l.map fun b=>PD.int .u8 b.toNat).flatMap PD.cells=l.map fun b=>PD.int .u8 b.toNat:=by
      intro l
      induction l with
      |nil=>rfl
      |cons b l ih=>
       simp only[List.map_cons,List.flatMap_cons,ih]
       rfl
     rw[e1,yAo]at q2
     rw[yAo]at q1
     cases hj:l[j]? with
     |none=>rw[hj]at q1;cases q1
     |some b=>
      rw[hj]at q1 q2
      simp only[yBc,yAb]at q1 q2
      subst q1 q2
      exact .int _ _
   ·cases h
  ·cases h
 ·rename_i e sz xs tok hu hd
  split at h
  ·rename_i he
   split at h
   ·rename_i hsz
    split at h
    ·rename_i l hl
     simp only[yAb]at h
     subst h
     obtain⟨A,cap,dP,rfl,h2,h3,h4,h5,h6,h7,h8,h9⟩:=hx.nW
     obtain⟨ns,rfl,rfl⟩:=QX hl
     rw[yAe]at h2 h5 hsz ⊢
     have hfl:dP=ns.map (Value.int .u8):=by
      have hlen:dP.length=ns.length:=by
       rcases hsz with h|h
       ·rw[h5,h];simp
       ·rw[h5,h];simp
      refine List.ext_getElem? fun j=>?_
      by_cases hj:j<ns.length
      ·have e1:((ns.map (PD.int .u8)).flatMap PD.cells)[j]?=some (.int .u8 ns[j]):=by
        have:∀ns:List Int,(ns.map (PD.int .u8)).flatMap PD.cells=ns.map (PD.int .u8):=by
         intro ns
         induction ns with
         |nil=>rfl
         |cons b l ih=>
          simp only[List.map_cons,List.flatMap_cons,ih]
          rfl
        rw[this,yAo,yAh hj]
        rfl
       have:=(h8 j dP[j] _ (yAh (by omega)) e1).nV
       rw[yAh (show j<dP.length by omega),yAo,yAh hj,this]
       rfl
      ·rw[List.getElem?_eq_none (by omega),List.getElem?_eq_none (by simp;omega)]
     subst hfl
     have hrun:(convert s d (.slice A ns.length cap)).run P c.w=.ok (.string ⟨(ns.map fun n=>UInt8.ofNat n.toNat).toArray⟩) c.w:=by
      rw[run_convert_bytes_string c.w s d e A ns.length cap hu he hd]
      cases A with
      |none=>
       have:ns=[]:=by
        cases ns with
        |nil=>rfl
        |cons n ns=>
         obtain⟨ad,e',_⟩:=h7 0 _ rfl
         cases e'
       subst this
       simp[Conv.bytesToString,Sem.run_pure]
       rfl
      |some a=>
       rw[run_bytesToString c.w a ns.length cap ns (EM (by simp) (fun j v hj=>by
        obtain⟨ad,e',h10,_⟩:=h7 j v hj
        cases e'
        exact h10)),QY]
       simp
     exact⟨_,_,hrun,c,rfl,rfl,hs,.refl _ _,.str _,fun _ h=>.inl h⟩
    ·cases h
   ·cases h
  ·cases h
 ·cases h
end
end
section
open Go.RowKit
section
variable{P:Program}{c:Cx}{fl:Nat}
theorem Z7(z:PD)(n l:Nat):(qC z n l).length=l*n:=by simp[qC]
theorem Z5{zv:Value}{z:PD}{n:Nat}(hz:VR c zv z)(hn:z.cells.length=n)(hn0:0<n)(l:Nat):aQ c (madeCells zv.cells (l*n)).toList (qC z n l):=by
 have hzc:=hz.cells
 have hzs:zv.cells.size=n:=by have:=hzc.1;simp at this;omega
 refine⟨by simp[madeCells,qC],fun k v d hv hd=>?_⟩
 simp only[madeCells,qC,Array.toList_map,Array.toList_range,yAo]at hv hd
 cases hk:(List.range (l*n))[k]? with
 |none=>simp[hk]at hv
 |some k'=>
  have hkm:k'%n<n:=Nat.mod_lt _ hn0
  have kK:k'%n<zv.cells.size:=by omega
  have lX:k'%n<z.cells.length:=by omega
  simp[hk,hzs,lX]at hv hd
  subst hv;subst hd
  exact hzc.2 (k'%n) _ _ (by simp[kK]) (by simp[lX])
theorem Z6{zv:Value}{z:PD}{n:Nat}(hz:VR c zv z)(hn:z.cells.length=n)(hn0:0<n)(hp:z.cells.all PD.plain=true)(l:Nat):∀v∈(madeCells zv.cells (l*n)).toList,v.oneCell'=true:=by
 have hzc:=hz.cells
 have hzs:zv.cells.size=n:=by have:=hzc.1;simp at this;omega
 have gL:∀v∈zv.cells.toList,v.oneCell'=true:=aQ.uL hzc hp
 intro v hv
 simp only[madeCells,Array.toList_map,Array.toList_range,yAw]at hv
 obtain⟨k,_,rfl⟩:=hv
 have kK:k%zv.cells.size<zv.cells.size:=Nat.mod_lt _ (by omega)
 apply gL
 simp[kK]
theorem aGX{z:PD}{n l:Nat}(hn:z.cells.length=n)(hn0:0<n):(List.replicate l z).flatMap PD.cells=qC z n l:=by
 have hx:∀x∈List.replicate l z,x.cells.length=n:=fun x hx=>by rw[(List.mem_replicate.1 hx).2];exact hn
 have hl:((List.replicate l z).flatMap PD.cells).length=l*n:=by rw[zB _ hx,List.length_replicate]
 refine List.ext_getElem? fun j=>?_
 by_cases hj:j<l*n
 ·have hi:j/n<l:=Nat.div_lt_of_lt_mul (by rw[Nat.mul_comm];exact hj)
  have hm:j%n<n:=Nat.mod_lt _ hn0
  have:=QV n (List.replicate l z) hx (j/n) z (by simp[hi]) (j%n) hm
  rw[Nat.div_add_mod']at this
  rw[this]
  simp only[qC,yAo,List.getElem?_range hj,yBc]
  rw[yAh (by omega)]
  simp[List.getD,show j%n<z.cells.length by omega]
 ·rw[List.getElem?_eq_none (by omega),List.getElem?_eq_none (by rw[Z7];omega)]
theorem aGD(hs:Sr c){t e:TypeId}{l k:Nat}{p:PD}{σ':List aB}(hu:P.underlying t=some (.slice e))(h:BC P c.σ t e l k=some (p,σ'))(kl kk:IntKind) :
  ∃v w',(Instr.makeSlice t (.int kl (l:Int)) (.int kk (k:Int))).run P c.w=.ok v w'/\Leaves fl c p σ' v w':=by
 unfold BC at h
 split at h
 ·rename_i i n z hi hn hz
  split at h
  ·rename_i hc
   obtain⟨hlk,hn0,hzl,hzp,hmax,hby⟩:=hc
   obtain⟨zv,i',hi',hzv,hzr⟩:=yY (c:=c) hz
   rw[hi]at hi'
   obtain rfl:=Option.some.inj hi'
   obtain⟨i',hi',hsz⟩:=QU hn
   rw[hi]at hi'
   obtain rfl:=Option.some.inj hi'
   have hmx:(k:Int)<=9223372036854775807:=by simp only[maxLen]at hmax;omega
   have hb':(i.bytes:Int)*(k:Int)<=281474976710656:=by
    have:((i.bytes*k:Nat):Int)<=281474976710656:=by rw[Nat.mul_comm];omega
    rwa [Int.natCast_mul]at this
   have hr:=run_make (P:=P) c.w t e i zv hu hi hzv kl kk l k (by omega) (by omega) hb' hmx
   simp only[Int.toNat_natCast]at hr
   rw[hsz]at hr
   have hgr:=wC c.w (.cells (madeCells zv.cells (k*n)) e)
   have hnew:=heap_alloc_new c.w (.cells (madeCells zv.cells (k*n)) e)
   have hsize:(madeCells zv.cells (k*n)).size=k*n:=size_madeCells _ _
   split at h
   ·rename_i h0
    obtain⟨rfl,zG⟩:=h0
    simp only[yAb,yAc]at h
    obtain⟨rfl,rfl⟩:=h
    have hown:(c.w.alloc (.cells (madeCells zv.cells (k*n)) e)).ownsRowF 0 e n (.slice (some ⟨c.w.heap.size,0,none⟩) 0 k) 0 []:=
     ⟨by simp,.inr ⟨c.w.heap.size,k,_,(0,0),rfl,yBf _,hnew,yBf _,yBf _,hmax,hsize,by simp⟩⟩
    have hbk:∀b,aV (.slice (some ⟨c.w.heap.size,0,none⟩) 0 k)=some b->c.w.heap.size<=b:=fun b hb=>by simp[aV]at hb;omega
    refine⟨_,_,hr,c.push (c.w.alloc (.cells (madeCells zv.cells (k*n)) e)) (.slice (some ⟨c.w.heap.size,0,none⟩) 0 k) (.own e n 0),rfl,rfl,?_,Nx.push hs hgr hbk,?_,?_⟩
    ·exact Sr.push hs hgr (fun b hb=>⟨hbk b hb,QW hown hb⟩) ⟨_,hown⟩
    ·exact .slice (some ⟨c.w.heap.size,0,none⟩) 0 k n [] (.own c.σ.length) [] rfl (yBf _) hmax (by simp) (by simp) (by simp) (by simp) (by simp) ⟨.inr rfl,e,0,fO.1,yAk _,fun _=>fO.2.1⟩
    ·intro id hd
     rcases hd with hd|rfl
     ·exact .inl hd
     ·exact .inr ⟨yAk _,by simp⟩
   ·split at h
    ·rename_i aGY
     subst aGY
     have hcv:=Z5 (c:=c) hzr hzl hn0 l
     have dT:=Z6 (c:=c) hzr hzl hn0 hzp l
     split at h
     ·simp only[yAb,yAc]at h
      obtain⟨rfl,rfl⟩:=h
      have hbk:∀b,aV (.pointer (some ⟨c.w.heap.size,0,none⟩))=some b->c.w.heap.size<=b/\b<(c.w.alloc (.cells (madeCells zv.cells (l*n)) e)).heap.size:=fun b hb=>by
       simp[aV]at hb;subst hb;simp
      refine⟨_,_,hr,c.push (c.w.alloc (.cells (madeCells zv.cells (l*n)) e)) (.pointer (some ⟨c.w.heap.size,0,none⟩)) (.box (.agg (qC z n l))),rfl,rfl,?_,Nx.push hs hgr (fun b hb=>(hbk b hb).1),?_,?_⟩
      ·exact Sr.push hs hgr hbk ⟨_,madeCells zv.cells (l*n),e,rfl,hnew,hcv,dT,fun t ds e=>by cases e⟩
      ·exact .dE _ _ _ _ _ _ (.inr rfl) ⟨_,fO.1⟩ fO.2.1 (yAk _) hmax
      ·intro id hd
       rcases hd with hd|rfl
       ·exact .inl hd
       ·exact .inr ⟨yAk _,by simp⟩
     ·simp only[yAb,yAc]at h
      obtain⟨rfl,rfl⟩:=h
      have nx:Nx 0 c (c.at (c.w.alloc (.cells (madeCells zv.cells (l*n)) e))):=Nx.grow hs hgr
      refine⟨_,_,hr,c.at (c.w.alloc (.cells (madeCells zv.cells (l*n)) e)),rfl,rfl,Sr.grow hs hgr,Nx.grow hs hgr,?_,fun _ h=>.inl h⟩
      refine .slice (some ⟨c.w.heap.size,0,none⟩) l l n _ .full (madeCells zv.cells (l*n)).toList (by simp) (yAk _) hmax (fun q hq=>by rw[(List.mem_replicate.1 hq).2];exact hzl) (by simp[hsize]) dT ?_ (fun j v d q1 q2=>?_) (by simp[qB])
      ·intro j v hv
       have hadd:(⟨c.w.heap.size,0,none⟩:Addr).add j=⟨c.w.heap.size,j,none⟩:=by unfold Addr.add;split<;>simp_all
       refine⟨_,rfl,?_,?_⟩
       ·rw[hadd]
        show(c.w.alloc (.cells (madeCells zv.cells (l*n)) e)).cell? _=_
        simp only[World.cell?,hnew];simpa using hv
       ·rw[hadd]
        refine H5 (hs.fresh _ (yAk _)) (fun id o hd ho hb=>?_)
        have:=hs.lt id _ hd hb
        simp at this
      ·rw[aGX hzl hn0]at q2
       exact(hcv.2 j v d q1 q2).mono nx
    ·cases h
  ·cases h
 ·cases h
theorem aGC(hs:Sr c){s d:TypeId}{x p:PD}(h:yX P c.σ s d x=some p){vx:Value}(hx:VR c vx x):∃v,(convert s d vx).run P c.w=.ok v c.w/\VR c v p:=by
 unfold yX at h
 split at h
 ·rename_i xs e hxs hu hd
  split at h
  ·rename_i l he hl
   simp only[yAb]at h
   subst h
   unfold xI at hxs
   split at hxs
   ·rename_i id off n size
    split at hxs
    ·split at hxs
     ·rename_i q hq
      split at hxs
      ·rename_i hle
       simp only[yAb]at hxs
       subst hxs
       obtain⟨b,cap,rfl,hD,_,hr,_,_⟩:=hx.yW
       obtain⟨b',cs,T,e1,e2,e3,e4⟩:=hs.box id q hD hq
       have hbb:b=b':=by
        rw[hr]at e1
        simpa using e1
       subst hbb
       obtain⟨ns,hns,rfl⟩:=QX hl
       have hlen:ns.length=n:=by
        have:=congrArg List.length hns
        rw[yAt,List.length_drop,yAe]at this
        omega
       have hcut:=e3.take_drop off n
       rw[hns]at hcut
       have hfl:(cs.toList.drop off).take n=ns.map (Value.int .u8):=by
        refine List.ext_getElem? fun j=>?_
        cases hj:ns[j]? with
        |none=>
         have hge:=List.getElem?_eq_none_iff.1 hj
         rw[List.getElem?_eq_none (by have:=hcut.1;rw[yAe]at this;omega),List.getElem?_eq_none (by simp;omega)]
        |some m=>
         obtain⟨v,nY,BY⟩:=hcut.get (i:=j) (d:=.int .u8 m) (by rw[yAo,hj];rfl)
         rw[nY,BY.nV,yAo,hj]
         rfl
       have hadd:∀j,(⟨b,off,none⟩:Addr).add j=⟨b,off+j,none⟩:=fun j=>by unfold Addr.add;split<;>simp_all
       refine⟨.string ⟨(ns.map fun n=>UInt8.ofNat n.toNat).toArray⟩,?_,.str _⟩
       rw[run_convert_bytes_string c.w s d e (some ⟨b,off,none⟩) n cap hu he hd]
       rw[run_bytesToString c.w ⟨b,off,none⟩ n cap ns (by
        rw[EM (cs:=ns.map (Value.int .u8)) (by simp[hlen]) (fun j v hj=>by
         rw[hadd]
         simp only[World.cell?,e2]
         rw[<-hfl,yAv]at hj
         split at hj
         ·rw[List.getElem?_drop]at hj
          simpa using hj
         ·cases hj)]),QY]
       simp
      ·cases hxs
     ·cases hxs
    ·cases hxs
   ·cases hxs
  ·cases h
 ·cases h
end
end
end Go.Kz
