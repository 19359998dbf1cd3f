/-
  Part P2 of the way: an interpreter over pure data, its soundness, walks through functions.
-/
import Derived.Lib.AppendZerosOnto
import Derived.Test.YtefkonhamghgfaaGreatDoorP1
import Derived.OrdersIn
set_option linter.all false

set_option maxHeartbeats 40000000
noncomputable section
namespace Go.Kz
section
open Go.RowKit
section
variable{P:Program}{c:Cx}{fl:Nat}
theorem zA(n:Nat):∀(k:Nat) (cs:List PD),(mX n k cs).length=k
 |0,_=>rfl
 |k+1,cs=>by simp[mX,zA n k]
theorem L7(n:Nat):∀(k:Nat) (cs:List PD),k*n<=cs.length->(mX n k cs).flatMap PD.cells=cs.take (k*n)
 |0,_,_=>by simp[mX]
 |k+1,cs,h=>by
  have h':k*n+n<=cs.length:=by rw[Nat.add_mul]at h;omega
  rw[mX,List.flatMap_cons,L7 n k (cs.drop n) (by simp;omega)]
  show cs.take n++(cs.drop n).take (k*n)=_
  rw[Nat.add_mul,Nat.one_mul,Nat.add_comm (k*n) n,List.take_add]
theorem L8(n:Nat):∀(k:Nat) (cs:List PD),k*n<=cs.length->∀x∈mX n k cs,x.cells.length=n
 |0,_,_,x,hx=>by simp[mX]at hx
 |k+1,cs,h,x,hx=>by
  have h':k*n+n<=cs.length:=by rw[Nat.add_mul]at h;omega
  rw[mX]at hx
  rcases List.mem_cons.1 hx with rfl|hx
  ·simp[PD.cells];omega
  ·exact L8 n k (cs.drop n) (by simp;omega) x hx
theorem Z0(hs:Sr c){x:PD}{sz:Nat}{ys:List PD}(h:mY c.σ x=some (sz,ys)){vx:Value}(hx:VR c vx x):∃B cap fly,vx=.slice B ys.length cap/\ys.length<=cap/\(∀y∈ys,y.cells.length=sz)/\fly.length=ys.length*sz/\(∀v∈fly,v.oneCell'=true) /\
  (∀(j:Nat) (v:Value),fly[j]?=some v->∃ad,B=some ad/\c.w.cell? (ad.add j)=some v)/\aQ c fly (ys.flatMap PD.cells):=by
 unfold mY at h
 split at h
 ·rename_i j8 ys0 tok
  simp only[yAb,yAc]at h
  obtain⟨rfl,rfl⟩:=h
  obtain⟨A,cap,fly,rfl,a1,a2,a3,a4,a5,a6,a7,a8⟩:=hx.nW
  refine⟨A,cap,fly,rfl,a1,a3,a4,a5,fun j v hj=>?_,by rw[a4,zB _ a3],a7⟩
  obtain⟨ad,q1,q2,_⟩:=a6 j v hj
  exact⟨ad,q1,q2⟩
 ·rename_i id ver off n j8
  split at h
  ·rename_i e sz' eR cs hq
   split at h
   ·rename_i hc
    obtain⟨rfl,rfl,hle⟩:=hc
    simp only[yAb,yAc]at h
    obtain⟨rfl,rfl⟩:=h
    obtain⟨b,cap,rfl,hp,h1,h2⟩:=hx.wE
    obtain⟨_,C,q2,q3⟩:=(hp.2 e _ _ cs hq).2 rfl
    obtain⟨b',C',cur,e1,e2,e3,e4,e5,e6,e7,e8⟩:=hs.row id e _ _ cs hp.1 hq
    rw[q2]at e1
    simp only[Value.slice.injEq,yAb,Addr.mk.injEq,and_true,true_and]at e1
    obtain⟨rfl,rfl⟩:=e1
    have hdl:n*sz'<=(cs.drop off).length:=by simp;omega
    have hlen:(((cur.toList.take cs.length).drop off).take (n*sz')).length=n*sz':=by simp;omega
    refine⟨some ⟨b,off,none⟩,cap,((cur.toList.take cs.length).drop off).take (n*sz'),by rw[zA],by rw[zA];exact h1,L8 _ _ _ hdl,by rw[hlen,zA],?_,?_,?_⟩
    ·intro v hv
     exact e8 v (yAy (List.mem_of_mem_drop (yAy hv)))
    ·intro j v hj
     refine⟨_,rfl,?_⟩
     rw[xM]
     simp only[World.cell?,e2]
     rw[yAv]at hj
     split at hj
     ·rw[List.getElem?_drop,yAv]at hj
      split at hj
      ·simpa using hj
      ·cases hj
     ·cases hj
    ·rw[L7 _ _ _ hdl]
     exact e7.take_drop off (n*sz')
   ·cases h
  ·cases h
 ·rename_i id off n j8
  split at h
  ·rename_i q hq
   split at h
   ·rename_i hle
    simp only[yAb,yAc]at h
    obtain⟨rfl,rfl⟩:=h
    obtain⟨b,cap,rfl,hD,_,hr,h1,h2⟩:=hx.yW
    obtain⟨b',cur,T,e1,e2,e3,e4⟩:=hs.box id q hD hq
    rw[hr]at e1
    simp only[Value.pointer.injEq,yAb,Addr.mk.injEq,and_true]at e1
    subst e1
    have hdl:n*j8<=(q.cells.drop off).length:=by simp;omega
    have hcl:cur.toList.length=q.cells.length:=e3.1
    have hlen:((cur.toList.drop off).take (n*j8)).length=n*j8:=by rw[yAt,List.length_drop];omega
    refine⟨some ⟨b,off,none⟩,cap,(cur.toList.drop off).take (n*j8),by rw[zA],by rw[zA];exact h1,L8 _ _ _ hdl,by rw[hlen,zA],?_,?_,?_⟩
    ·intro v hv
     exact e4.1 v (List.mem_of_mem_drop (yAy hv))
    ·intro j v hj
     refine⟨_,rfl,?_⟩
     rw[xM]
     simp only[World.cell?,e2]
     rw[yAv]at hj
     split at hj
     ·rw[List.getElem?_drop]at hj
      simpa using hj
     ·cases hj
    ·rw[L7 _ _ _ hdl]
     exact e3.take_drop off (n*j8)
   ·cases h
  ·cases h
 ·cases h
theorem Z1{zs:Array Value}(h:∀v∈zs.toList,v.oneCell'=true)(h0:0<zs.size)(n:Nat):∀v∈(Builtin.zeroCells zs n).toList,v.oneCell'=true:=by
 intro v hv
 simp only[Builtin.zeroCells,Array.toList_map,Array.toList_range,yAw]at hv
 obtain⟨k,_,rfl⟩:=hv
 have kK:k%zs.size<zs.size:=Nat.mod_lt _ h0
 apply h
 simp[kK]
theorem aGQ{w:World}{t ty e:TypeId}{i:TypeInfo}{z:Value}(hu:P.underlying t=some (.slice e))(hi:P.info? e=some i)(hz:i.zero=some z)(hzs:z.cells.size=i.size)(hpos:0<i.size)(gL:∀v∈z.cells.toList,v.oneCell'=true)
  {A B:Option Addr} {n cap m c':Nat} {flx fly:List Value} (hA:A=none->n=0/\cap=0) (hlx:flx.length=n*i.size) (hx:∀(j:Nat) (v:Value),flx[j]?=some v->∃ad,A=some ad/\w.cell? (ad.add j)=some v)
  (hly:fly.length=m*i.size) (hy:∀(j:Nat) (v:Value),fly[j]?=some v->∃ad,B=some ad/\w.cell? (ad.add j)=some v) (BS:∀v∈flx,v.oneCell'=true) (QL:∀v∈fly,v.oneCell'=true) (hm:0<m) (hcap:cap<n+m) (hmax:n+m<=maxLen) (hby:(n+m)*i.bytes<=140737488355328) :
  ∃C cur w',(Builtin.append_ #[t,t] ty #[.slice A n cap,.slice B m c']).run P w=.ok (.slice (some ⟨w.heap.size,0,none⟩) (n+m) C) w'/\w.grownBy w' none/\w'.heap[w.heap.size]?=some (.cells cur e (0,0))/\cur.size=C*i.size /\
   n+m<=C/\C<=maxLen/\(∀v∈cur.toList,v.oneCell'=true)/\∃rest,cur.toList=flx++fly++rest:=by
 have QM:0<fly.length:=by rw[hly];exact Nat.mul_pos hm hpos
 obtain⟨bd,rfl,_⟩:=hy 0 fly[0] (by simp[QM])
 have hnews:∀(j:Nat) (u:Value),fly[j]?=some u->w.cell? (bd.add j)=some u:=fun j u hj=>by
  obtain⟨ad,e',h9⟩:=hy j u hj
  cases e';exact h9
 have fin:∀old,old<n+m->w.grownBy (w.drew.alloc (.cells (flx.toArray++fly.toArray++Builtin.zeroCells z.cells (grownCap w (n+m) old e-(n+m))) e)) none /\
   (w.drew.alloc (.cells (flx.toArray++fly.toArray++Builtin.zeroCells z.cells (grownCap w (n+m) old e-(n+m))) e)).heap[w.heap.size]?=some (.cells (flx.toArray++fly.toArray++Builtin.zeroCells z.cells (grownCap w (n+m) old e-(n+m))) e (0,0)) /\
   (flx.toArray++fly.toArray++Builtin.zeroCells z.cells (grownCap w (n+m) old e-(n+m))).size=grownCap w (n+m) old e*i.size/\n+m<=grownCap w (n+m) old e/\grownCap w (n+m) old e<=maxLen /\
   (∀v∈(flx.toArray++fly.toArray++Builtin.zeroCells z.cells (grownCap w (n+m) old e-(n+m))).toList,v.oneCell'=true)/\∃rest,(flx.toArray++fly.toArray++Builtin.zeroCells z.cells (grownCap w (n+m) old e-(n+m))).toList=flx++fly++rest:=by
  intro old ho
  have hge:=grownCap_ge w (n+m) old e
  have hcm:grownCap w (n+m) old e<=maxLen:=grownCap_le_maxLen w (n+m) old e hmax
  refine⟨⟨rfl,rfl,rfl,by simp,fun k hk _=>heap_alloc_old w.drew _ hk⟩,heap_alloc_new w.drew _,?_,hge,hcm,?_,_,by simp only[Array.toList_append];rfl⟩
  ·simp only[Array.size_append,List.size_toArray,size_zeroCells,hzs,hlx,hly,<-Nat.add_mul]
   congr 1
   omega
  ·intro v hv
   simp only[Array.toList_append,List.mem_append]at hv
   rcases hv with(hv|hv)|hv
   ·exact BS v hv
   ·exact QL v hv
   ·exact Z1 gL (by omega) _ v hv
 cases A with
 |none=>
  obtain⟨rfl,rfl⟩:=hA rfl
  have BT:flx=[]:=yAf (by rw[hlx];simp)
  subst BT
  have hr:=run_append_nil (P:=P) w t ty e i z hu hi hz bd m c' fly hly hnews (by omega) (by simp only[maxLen]at hmax;omega) (by have hb:=hby;simp only[yAp]at hb;omega)
  have:=fin 0 (by omega)
  simp only[yAp,List.nil_append,Array.empty_append]at this ⊢
  exact⟨_,_,_,hr,this⟩
 |some ad=>
  have holds:∀(j:Nat) (u:Value),flx[j]?=some u->w.cell? (ad.add j)=some u:=fun j u hj=>by
   obtain⟨L9,e',h9⟩:=hx j u hj
   cases e';exact h9
  have hr:=run_append_grow (P:=P) w t ty e i z hu hi hz ad n cap flx hlx holds bd m c' fly hly hnews hcap (by simp only[maxLen]at hmax;omega) (growslice_fits hcap hby)
  exact⟨_,_,_,hr,fin cap hcap⟩
theorem aGR{w:World}{t ty e:TypeId}{i:TypeInfo}(hu:P.underlying t=some (.slice e))(hi:P.info? e=some i){b off n cap m c':Nat}{B:Option Addr}{fly:List Value}
  (hly:fly.length=m*i.size) (hy:∀(j:Nat) (v:Value),fly[j]?=some v->∃ad,B=some ad/\w.cell? (ad.add j)=some v) (hroom:n+m<=cap) :
  (Builtin.append_ #[t,t] ty #[.slice (some ⟨b,off,none⟩) n cap,.slice B m c']).run P w=Result.andThen ((storeCells ⟨b,off+n*i.size,none⟩ fly).run P w) (fun _ w'=>.ok (.slice (some ⟨b,off,none⟩) (n+m) cap) w'):=by
 have hf:(Builtin.firstCells i.size m (.slice B m c')).run P w=.ok fly.toArray w:=by
  cases B with
  |none=>
   have:fly=[]:=by
    cases fly with
    |nil=>rfl
    |cons x xs=>obtain⟨_,e',_⟩:=hy 0 x rfl;cases e'
   subst this
   simp[Builtin.firstCells]
  |some bd=>
   simp only[Builtin.firstCells]
   exact EM hly fun j v hj=>by
    obtain⟨ad,e',h9⟩:=hy j v hj
    cases e';exact h9
 simp[Builtin.append_,run_underlying hu,sizeOf,typeInfo,hi,Builtin.lenOf,hroom,hf,xM]
structure Z2 (P:Program) (w:World) (t u ty e:TypeId) (i:TypeInfo) (vx:Value) (m:Nat) (fly:List Value):Prop where
 none_:m=0->∀(A:Option Addr) (n cap:Nat),n<=cap->(Builtin.append_ #[t,u] ty #[.slice A n cap,vx]).run P w=.ok (.slice A n cap) w
 grow:0<m->∀(A:Option Addr) (n cap:Nat) (flx:List Value),(A=none->n=0/\cap=0)->flx.length=n*i.size->(∀(j:Nat) (v:Value),flx[j]?=some v->∃ad,A=some ad/\w.cell? (ad.add j)=some v)->(∀v∈flx,v.oneCell'=true) ->
  cap<n+m->n+m<=maxLen->(n+m)*i.bytes<=140737488355328 ->
  ∃C cur w',(Builtin.append_ #[t,u] ty #[.slice A n cap,vx]).run P w=.ok (.slice (some ⟨w.heap.size,0,none⟩) (n+m) C) w'/\w.grownBy w' none/\w'.heap[w.heap.size]?=some (.cells cur e (0,0))/\cur.size=C*i.size /\
   n+m<=C/\C<=maxLen/\(∀v∈cur.toList,v.oneCell'=true)/\∃rest,cur.toList=flx++fly++rest
 room:∀(b off n cap:Nat),n+m<=cap->(Builtin.append_ #[t,u] ty #[.slice (some ⟨b,off,none⟩) n cap,vx]).run P w=Result.andThen ((storeCells ⟨b,off+n*i.size,none⟩ fly).run P w) (fun _ w'=>.ok (.slice (some ⟨b,off,none⟩) (n+m) cap) w')
theorem Z3(hs:Sr c){fn:Nat}{t u ty:TypeId}{s x p:PD}{σ':List aB}(h:dS P fn fl c.σ t s x=some (p,σ')){vs vx:Value}(hvs:VR c vs s)
  (hsrc:∀e i z sz' ys,P.underlying t=some (.slice e)->mY c.σ x=some (sz',ys)->P.info? e=some i->i.zero=some z->z.cells.size=i.size->0<i.size->(∀v∈z.cells.toList,v.oneCell'=true)->(ys.length=0\/sz'=i.size) ->
   ∃fly:List Value,fly.length=ys.length*i.size/\(∀v∈fly,v.oneCell'=true)/\aQ c fly (ys.flatMap PD.cells)/\Z2 P c.w t u ty e i vx ys.length fly) :
  ∃v w',(Builtin.append_ #[t,u] ty #[vs,vx]).run P c.w=.ok v w'/\Leaves fl c p σ' v w':=by
 unfold dS at h
 split at h
 rotate_left
 ·cases h
 split at h
 rotate_left
 ·cases h
 rename_i e sz' ys hu hw
 split at h
 rotate_left
 ·cases h
 rename_i i hi
 split at h
 rotate_left
 ·cases h
 rename_i z hz
 split at h
 rotate_left
 ·cases h
 rename_i hc
 obtain⟨BU,hpos,hzs,gL⟩:=hc
 have gL:∀v∈z.cells.toList,v.oneCell'=true:=fun v hv=>yAn.1 gL v hv
 obtain⟨fly,hly,b4,b6,hS⟩:=hsrc e i z sz' ys hu hw hi hz hzs hpos gL BU
 split at h
 ·
  rename_i sz xs tok
  split at h
  rotate_left
  ·cases h
  rename_i hc
  obtain⟨hsz,hmax,hby,htok⟩:=hc
  obtain⟨A,cap,flx,rfl,a1,a2,a3,a4,a5,a6,a7,a8⟩:=hvs.nW
  have hcells:∀(j:Nat) (v:Value),flx[j]?=some v->∃ad,A=some ad/\c.w.cell? (ad.add j)=some v:=fun j v hj=>by
   obtain⟨ad,q1,q2,_⟩:=a6 j v hj
   exact⟨ad,q1,q2⟩
  split at h
  ·rename_i h0
   simp only[yAb,yAc]at h
   obtain⟨rfl,rfl⟩:=h
   exact⟨.slice A xs.length cap,c.w,hS.none_ h0 A xs.length cap a1,c,rfl,rfl,hs,.refl _ _,hvs,fun _ h=>.inl h⟩
  ·rename_i h0
   simp only[yAb,yAc]at h
   obtain⟨rfl,rfl⟩:=h
   have hcapn:xs.length=cap:=by
    cases tok<;>first|(simp[Tok.fresh]at htok;done)|(simp only[qB]at a8;omega)
   have hlx:flx.length=xs.length*i.size:=by
    rcases hsz with h0|h0
    ·rw[a4,h0];simp
    ·rw[a4,h0]
   have hA:A=none->xs.length=0/\cap=0:=by
    rintro rfl
    have hx0:xs.length=0:=by
     rcases Nat.eq_zero_or_pos xs.length with h0|h0
     ·exact h0
     ·have:0<flx.length:=by rw[hlx];exact Nat.mul_pos h0 hpos
      obtain⟨ad,e',_⟩:=a6 0 flx[0] (by simp[this])
      cases e'
    exact⟨hx0,by omega⟩
   obtain⟨C,cur,w',r,g1,g2,g3,g4,g5,g6,rest,g7⟩:=hS.grow (Nat.pos_of_ne_zero h0) A xs.length cap flx hA hlx hcells a5 (by omega) hmax hby
   have hcl:((xs++ys).flatMap PD.cells).length=(flx++fly).length:=by
    rw[List.flatMap_append,yAa,yAa,zB xs a3,b6.1,a4]
   have hvr:aQ c (cur.toList.take ((xs++ys).flatMap PD.cells).length) ((xs++ys).flatMap PD.cells):=by
    rw[hcl,g7,List.take_left,List.flatMap_append]
    exact aQ.append ⟨by rw[zB xs a3,a4],a7⟩ b6
   have hcs:((xs++ys).flatMap PD.cells).length<=cur.size:=by
    rw[hcl]
    have:=congrArg List.length g7
    simp at this ⊢
    omega
   have hbk:∀b,aV (.slice (some ⟨c.w.heap.size,0,none⟩) 0 C)=some b->c.w.heap.size<=b:=fun b hb=>by simp[aV]at hb;omega
   refine⟨_,w',r,c.push w' (.slice (some ⟨c.w.heap.size,0,none⟩) 0 C) (.row e i.size 0 ((xs++ys).flatMap PD.cells)),rfl,rfl,?_,Nx.push hs g1 hbk,?_,?_⟩
   ·refine Sr.push hs g1 (fun b hb=>⟨hbk b hb,?_⟩) ⟨_,C,cur,rfl,g2,g3,g5,hpos,hcs,hvr,g6⟩
    simp[aV]at hb
    subst hb
    exact gJ g2
   ·refine .aF _ _ _ _ _ _ _ ⟨.inr rfl,fun e' j8 v' cs hq=>?_⟩ g4 g5
    rw[fO.1]at hq
    simp only[yAb,aB.row.injEq]at hq
    obtain⟨rfl,rfl,rfl,rfl⟩:=hq
    exact⟨yAk _,fun _=>⟨rfl,C,fO.2.1,by simp⟩⟩
   ·intro id hd
    rcases hd with hd|rfl
    ·exact .inl hd
    ·exact .inr ⟨yAk _,by simp⟩
 ·
  rename_i id ver off n sz
  split at h
  rotate_left
  ·cases h
  rename_i hc
  obtain⟨hfl,rfl,hmax,hby⟩:=hc
  split at h
  rotate_left
  ·cases h
  rename_i e' j8 eR cs hq
  split at h
  rotate_left
  ·cases h
  rename_i hc
  obtain⟨rfl,rfl,rfl⟩:=hc
  obtain⟨b,cap,rfl,hp,h1,h2⟩:=hvs.wE
  obtain⟨_,C,hr,hCo⟩:=(hp.2 _ _ _ cs hq).2 rfl
  have hbase:=hs.row id _ _ _ cs hp.1 hq
  obtain⟨b',C',cur,e1,e2,e3,e4,e5,e6,e7,e8⟩:=hbase
  rw[hr]at e1
  simp only[Value.slice.injEq,yAb,Addr.mk.injEq,and_true,true_and]at e1
  obtain⟨rfl,rfl⟩:=e1
  split at h
  ·
   rename_i hin
   simp only[yAb,yAc]at h
   obtain⟨rfl,rfl⟩:=h
   have hroom:n+ys.length<=cap:=by
    have:(n+ys.length)*i.size<=cap*i.size:=by omega
    exact Nat.le_of_mul_le_mul_right this hpos
   obtain⟨w',hst,hs',hn'⟩:=MA (P:=P) (fl:=fl) hs hp.1 hq hr b6 b4 (off:=off+n*i.size) (by rw[<-b6.1,hly];rw[Nat.add_mul]at hin;omega) hfl
   refine⟨.slice (some ⟨b,off,none⟩) (n+ys.length) cap,w',?_,_,rfl,rfl,hs',hn',?_,fun i hi=>.inl hi⟩
   ·rw[hS.room b off n cap hroom,hst]
    rfl
   ·exact .aF _ _ _ _ _ _ _ (hp.mV hn'.QN) hroom h2
  ·split at h
   rotate_left
   ·cases h
   rename_i hc
   obtain⟨rfl,hn⟩:=hc
   simp only[yAb,yAc]at h
   obtain⟨rfl,rfl⟩:=h
   have hcapC:cap=C:=Nat.eq_of_mul_eq_mul_right hpos (by omega)
   subst hcapC
   have hyp:ys.length≠0:=fun h0=>by
    rename_i hin
    rw[h0,Nat.add_zero,yAp]at hin
    omega
   by_cases hroom:n+ys.length<=cap
   ·have hfit:cs.length+fly.length<=cur.size:=by
     rw[e3,hly,<-hn,<-Nat.add_mul]
     exact Nat.mul_le_mul_right _ hroom
    have hst:=run_storeCells_at (P:=P) b (0+n*i.size) _ fly 0 cur c.w e2 (by omega) b4
    simp only[Nat.add_zero,yAp]at hst
    have hrun:=hS.room b 0 n cap hroom
    rw[yAp,hst]at hrun
    have hk:∀k,k<c.w.heap.size->aV (c.ρ id)≠some k->(c.w.setRow b (List.take (n*i.size) cur.toList++fly++List.drop (n*i.size+fly.length) cur.toList).toArray).heap[k]?=c.w.heap[k]?:=
     fun k _ hk=>setRow_other _ _ _ _ (fun h=>hk (by rw[hr,h];rfl))
    have hcr:(List.take (n*i.size) cur.toList++fly++List.drop (n*i.size+fly.length) cur.toList).length=cur.size:=by simp;omega
    have hall:∃b0 C0 uM,c.ρ id=.slice (some ⟨b0,0,none⟩) 0 C0/\(c.w.setRow b (List.take (n*i.size) cur.toList++fly++List.drop (n*i.size+fly.length) cur.toList).toArray).heap[b0]?=some (.cells uM e' (0,0))/\uM.size=C0*i.size/\C0<=maxLen/\0<i.size /\
      (cs++ys.flatMap PD.cells).length<=uM.size/\aQ c (uM.toList.take (cs++ys.flatMap PD.cells).length) (cs++ys.flatMap PD.cells)/\∀v∈uM.toList,v.oneCell'=true:=by
     refine⟨b,cap,_,hr,setRow_heap _ _ cur _ e' (0,0) e2,by simpa using hcr.trans e3,e4,hpos,?_,?_,HU e8 b4 _ _⟩
     ·rw[yAa,<-b6.1,List.size_toArray,hcr]
      exact hfit
     ·show aQ c (List.take _ (List.take (n*i.size) cur.toList++fly++List.drop (n*i.size+fly.length) cur.toList)) _
      rw[show(cs++ys.flatMap PD.cells).length=(List.take (n*i.size) cur.toList++fly).length by
       rw[yAa,yAa,b6.1,yAt,hn]
       have:cs.length<=cur.toList.length:=by simpa using e6
       omega]
      rw[List.take_left,hn]
      exact e7.append b6
    refine⟨.slice (some ⟨b,0,none⟩) (n+ys.length) cap,_,hrun,c.put _ id (c.ρ id) (.row e' i.size (eR+1) (cs++ys.flatMap PD.cells)),rfl,rfl,Sr.putRow hs hp.1 hq (Nat.le_succ _) (fun h=>rfl) ⟨rfl,rfl,rfl,by simp⟩ hk (.inl rfl) hall,
     Nx.putRow hs hp.1 hq hfl (Nat.le_succ _) (fun h=>rfl) ⟨rfl,rfl,rfl,by simp⟩ hk (.inl rfl),?_,fun i hi=>.inl hi⟩
    refine .aF _ _ _ _ _ _ _ ⟨hp.1,fun e0 xG v1 EN hq1=>?_⟩ hroom h2
    rw[fC (hs.bF id hp.1)]at hq1
    simp only[yAb,aB.row.injEq]at hq1
    obtain⟨rfl,rfl,rfl,rfl⟩:=hq1
    exact⟨yAk _,fun _=>⟨rfl,cap,by rw[mZ];exact hr,by simp⟩⟩
   ·have hcut:(cur.toList.take cs.length).length=n*i.size:=by
     rw[yAt,<-hn]
     have:n*i.size<=cur.toList.length:=by rw[hn];simpa using e6
     omega
    obtain⟨C2,QO,w',r,g1,g2,g3,g4,g5,g6,rest,g7⟩:=hS.grow (Nat.pos_of_ne_zero hyp) (some ⟨b,0,none⟩) n cap (cur.toList.take cs.length) (fun h=>by cases h) hcut (fun j v hj=>by
      refine⟨_,rfl,?_⟩
      rw[xM]
      simp only[World.cell?,e2]
      rw[yAv]at hj
      split at hj
      ·simpa using hj
      ·cases hj) (fun v hv=>e8 v (yAy hv)) (by omega) hmax hby
    have hbk:∀b0,aV (.slice (some ⟨c.w.heap.size,0,none⟩) 0 C2)=some b0->c.w.heap.size<=b0:=fun b hb=>by simp[aV]at hb;omega
    have hlen:(cs++ys.flatMap PD.cells).length=(cur.toList.take cs.length++fly).length:=by rw[yAa,yAa,<-b6.1,hcut,hn]
    have hall:∃b0 C0 uM,Value.slice (some ⟨c.w.heap.size,0,none⟩) 0 C2=.slice (some ⟨b0,0,none⟩) 0 C0/\w'.heap[b0]?=some (.cells uM e' (0,0))/\uM.size=C0*i.size/\C0<=maxLen/\0<i.size /\
      (cs++ys.flatMap PD.cells).length<=uM.size/\aQ c (uM.toList.take (cs++ys.flatMap PD.cells).length) (cs++ys.flatMap PD.cells)/\∀v∈uM.toList,v.oneCell'=true:=by
     refine⟨c.w.heap.size,C2,QO,rfl,g2,g3,g5,hpos,?_,?_,g6⟩
     ·rw[hlen]
      have:=congrArg List.length g7
      simp only[Array.length_toList,yAa]at this ⊢
      omega
     ·rw[hlen,g7,List.take_left]
      exact e7.append b6
    have hk:∀k,k<c.w.heap.size->aV (c.ρ id)≠some k->w'.heap[k]?=c.w.heap[k]?:=fun k hk _=>g1.block k hk (by simp)
    have h0:w'.os=c.w.os/\w'.tape=c.w.tape/\w'.output=c.w.output/\c.w.heap.size<=w'.heap.size:=⟨g1.os,g1.tape,g1.output,g1.size⟩
    refine⟨_,w',r,c.put w' id (.slice (some ⟨c.w.heap.size,0,none⟩) 0 C2) (.row e' i.size (eR+1) (cs++ys.flatMap PD.cells)),rfl,rfl,Sr.putRow hs hp.1 hq (Nat.le_succ _) (fun h=>by omega) h0 hk (.inr hbk) hall,
     Nx.putRow hs hp.1 hq hfl (Nat.le_succ _) (fun h=>by omega) h0 hk (.inr hbk),?_,fun i hi=>.inl hi⟩
    refine .aF _ _ _ _ _ _ _ ⟨hp.1,fun e0 xG v1 EN hq1=>?_⟩ g4 g5
    rw[fC (hs.bF id hp.1)]at hq1
    simp only[yAb,aB.row.injEq]at hq1
    obtain⟨rfl,rfl,rfl,rfl⟩:=hq1
    exact⟨yAk _,fun _=>⟨rfl,C2,mZ,by simp⟩⟩
 ·cases h
theorem aGJ(hs:Sr c){fn:Nat}{t:TypeId}{s x p:PD}{σ':List aB}(h:dS P fn fl c.σ t s x=some (p,σ')){vs vx:Value}(hvs:VR c vs s)(hvx:VR c vx x)(ty:TypeId) :
  ∃v w',(Builtin.append_ #[t,t] ty #[vs,vx]).run P c.w=.ok v w'/\Leaves fl c p σ' v w':=by
 refine Z3 hs h hvs fun e i z sz' ys hu hw hi hz hzs hpos gL BU=>?_
 obtain⟨B,cx,fly,rfl,b1,b2,b3,b4,b5,b6⟩:=Z0 hs hw hvx
 have hly:fly.length=ys.length*i.size:=by
  rcases BU with h0|h0
  ·rw[b3,h0];simp
  ·rw[b3,h0]
 refine⟨fly,hly,b4,b6,fun h0 A n cap hn=>?_,fun hm A n cap flx hA hlx hx BS hcap hmax hby=>aGQ hu hi hz hzs hpos gL hA hlx hx hly b5 BS b4 hm hcap hmax hby,fun b off n cap hroom=>aGR hu hi hly b5 hroom⟩
 have hfy:fly=[]:=yAf (by rw[hly,h0];simp)
 subst hfy
 have hfy:(Builtin.firstCells i.size 0 (.slice B 0 cx)).run P c.w=.ok #[] c.w:=by
  cases B<;>simp[Builtin.firstCells,loadCells,loadCellsFrom]
 rw[h0]
 cases A<;>simp[Builtin.append_,run_underlying hu,sizeOf,typeInfo,hi,Builtin.lenOf,hfy,hn,storeCells]
theorem aGS{w:World}{t u ty e:TypeId}{i:TypeInfo}(hu:P.underlying t=some (.slice e))(hs:P.underlying u=some .string)(hi:P.info? e=some i)(hz:i.zero=some (.int .u8 0))(hsz:i.size=1)(hby:i.bytes=1)(l:List UInt8) :
  Z2 P w t u ty e i (.string ⟨l.toArray⟩) l.length (l.map fun b=>.int .u8 b.toNat):=by
 have hsl:(ByteArray.mk l.toArray).size=l.length:=by simp[ByteArray.size]
 have hcl:Lib.strCells ⟨l.toArray⟩=l.map fun b=>Value.int .u8 b.toNat:=by simp[Lib.strCells]
 have hone:∀v∈l.map (fun b=>Value.int .u8 b.toNat),v.oneCell'=true:=fun v hv=>by
  obtain⟨b,_,rfl⟩:=yAw.1 hv
  rfl
 have xN:∀v∈(Value.int IntKind.u8 0).cells.toList,v.oneCell'=true:=fun v hv=>by
  have:v=.int .u8 0:=by simpa [Value.cells]using hv
  rw[this];rfl
 refine⟨fun h0 A n cap hn=>(Z4 hu hs hi hz hsz hby l).none_ h0 A n cap hn,fun hm A n cap flx hA hlx hx BS hcap hmax hb=>?_,fun b off n cap hroom=>?_⟩
 ·have fin:∀old,old<n+l.length->w.grownBy (w.drew.alloc (.cells (flx.toArray++(l.map fun b=>Value.int .u8 b.toNat).toArray++Builtin.zeroCells (Value.int .u8 0).cells (grownCap w (n+l.length) old e-(n+l.length))) e)) none /\
    (w.drew.alloc (.cells (flx.toArray++(l.map fun b=>Value.int .u8 b.toNat).toArray++Builtin.zeroCells (Value.int .u8 0).cells (grownCap w (n+l.length) old e-(n+l.length))) e)).heap[w.heap.size]?=some (.cells (flx.toArray++(l.map fun b=>Value.int .u8 b.toNat).toArray++Builtin.zeroCells (Value.int .u8 0).cells (grownCap w (n+l.length) old e-(n+l.length))) e (0,0)) /\
    (flx.toArray++(l.map fun b=>Value.int .u8 b.toNat).toArray++Builtin.zeroCells (Value.int .u8 0).cells (grownCap w (n+l.length) old e-(n+l.length))).size=grownCap w (n+l.length) old e*i.size/\n+l.length<=grownCap w (n+l.length) old e/\grownCap w (n+l.length) old e<=maxLen /\
    (∀v∈(flx.toArray++(l.map fun b=>Value.int .u8 b.toNat).toArray++Builtin.zeroCells (Value.int .u8 0).cells (grownCap w (n+l.length) old e-(n+l.length))).toList,v.oneCell'=true)/\∃rest,(flx.toArray++(l.map fun b=>Value.int .u8 b.toNat).toArray++Builtin.zeroCells (Value.int .u8 0).cells (grownCap w (n+l.length) old e-(n+l.length))).toList=flx++(l.map fun b=>Value.int .u8 b.toNat)++rest:=by
   intro old ho
   have hge:=grownCap_ge w (n+l.length) old e
   have hcm:grownCap w (n+l.length) old e<=maxLen:=grownCap_le_maxLen w (n+l.length) old e hmax
   have gL:(Value.int IntKind.u8 0).cells.size=1:=rfl
   refine⟨⟨rfl,rfl,rfl,by simp,fun k hk _=>heap_alloc_old w.drew _ hk⟩,heap_alloc_new w.drew _,?_,hge,hcm,?_,_,by simp only[Array.toList_append];rfl⟩
   ·rw[hsz]at hlx ⊢
    simp only[Array.size_append,List.size_toArray,size_zeroCells,gL,hlx,yAe]
    omega
   ·intro v hv
    simp only[Array.toList_append,List.mem_append]at hv
    rcases hv with(hv|hv)|hv
    ·exact BS v hv
    ·exact hone v hv
    ·exact Z1 xN (by decide) _ v hv
  cases A with
  |none=>
   obtain⟨rfl,rfl⟩:=hA rfl
   have BT:flx=[]:=yAf (by rw[hlx];simp)
   subst BT
   have hr:=run_append_nil_string (P:=P) w t u ty e i (.int .u8 0) hu hs hi hz ⟨l.toArray⟩ (by rw[hsl];omega) (by rw[hsl];simp only[maxLen]at hmax;omega) (by rw[hby,hsl];rw[hby]at hb;omega)
   have e1:((ByteArray.mk l.toArray).data.map fun b=>Value.int .u8 b.toNat)=(l.map fun b=>Value.int .u8 b.toNat).toArray:=by simp
   rw[hsl,e1]at hr
   have:=fin 0 (by omega)
   simp only[yAp,List.nil_append,Array.empty_append]at this ⊢
   exact⟨_,_,_,hr,this⟩
  |some ad=>
   have holds:∀(j:Nat) (u:Value),flx[j]?=some u->w.cell? (ad.add j)=some u:=fun j u hj=>by
    obtain⟨L9,e',h9⟩:=hx j u hj
    cases e';exact h9
   have hr:=Lib.run_append_grow_string (P:=P) w t u ty e i (.int .u8 0) hu hs hi hz ad n cap flx hlx holds ⟨l.toArray⟩ (by omega) (by rw[hsl];simp only[maxLen]at hmax;omega) (by rw[hby,hsl];exact growslice_fits (by omega) (by rw[hby]at hb;omega))
   rw[hsl,hcl]at hr
   exact⟨_,_,_,hr,fin cap hcap⟩
 ·have hf:=Lib.run_firstCells_string (P:=P) w i.size ⟨l.toArray⟩
  rw[hsl,hcl]at hf
  simp[Builtin.append_,run_underlying hu,run_underlying hs,sizeOf,typeInfo,hi,Builtin.lenOf,hsl,hroom,hf,xM]
theorem aGL(hs:Sr c){fn:Nat}{t u:TypeId}{s p:PD}{l:List UInt8}{σ':List aB}(hst:P.underlying u=some .string)(hb:p6 P t=true)(h:dS P fn fl c.σ t s (wF l)=some (p,σ')){vs:Value}(hvs:VR c vs s)(ty:TypeId) :
  ∃v w',(Builtin.append_ #[t,u] ty #[vs,.string ⟨l.toArray⟩]).run P c.w=.ok v w'/\Leaves fl c p σ' v w':=by
 refine Z3 hs h hvs fun e i z sz' ys hu hw hi hz hzs hpos gL BU=>?_
 simp only[wF,mY,yAb,yAc]at hw
 obtain⟨_,rfl⟩:=hw
 simp only[p6,hu,hi,hz]at hb
 split at hb
 rotate_left
 ·cases hb
 rename_i heq
 simp only[yAb]at heq
 subst heq
 simp only[yAr,beq_iff_eq]at hb
 refine⟨l.map fun b=>.int .u8 b.toNat,by simp[hb.1],fun v hv=>?_,?_,?_⟩
 ·obtain⟨b,_,rfl⟩:=yAw.1 hv
  rfl
 ·rw[HV]
  refine⟨by simp,fun j v d h1 h2=>?_⟩
  rw[yAo]at h1 h2
  cases hj:l[j]? with
  |none=>rw[hj]at h1;simp at h1
  |some b=>
   rw[hj]at h1 h2
   simp only[yBc,yAb]at h1 h2
   subst h1 h2
   exact .int _ _
 ·rw[yAe]
  exact aGS hu hst hi hz hb.1 hb.2 l
theorem aGT(n:Nat):(Builtin.zeroCells #[Value.int .u8 0] n).toList=List.replicate n (Value.int .u8 0):=by
 refine List.ext_getElem (by simp[Builtin.zeroCells]) fun i h1 h2=>?_
 simp[Builtin.zeroCells,Nat.mod_one]
theorem aGN(hs:Sr c){n:Nat}{t u:TypeId}{s p:PD}{m:Int}{σ':List aB}(hst:P.underlying u=some (.int .i64))(h:yR P n c.σ t s m=some (p,σ')){vs:Value}(hvs:VR c vs s)(ty:TypeId) :
  ∃v w',(Builtin.append_ #[t,u] ty #[vs,.int .i64 m]).run P c.w=.ok v w'/\Leaves fl c p σ' v w':=by
 unfold yR at h
 split at h
 rotate_left
 ·cases h
 rename_i e sz hu
 split at h
 rotate_left
 ·cases h
 rename_i hc
 obtain⟨hb,_,hm0,nT⟩:=hc
 simp only[yAb,yAc]at h
 obtain⟨rfl,rfl⟩:=h
 obtain⟨k,rfl⟩:∃k:Nat,m=k:=⟨m.toNat,by omega⟩
 rw[Int.toNat_natCast]
 have hk:0<k:=by omega
 obtain⟨A,cap,dP,rfl,a1,a2,a3,a4,a5,a6,a7,a8⟩:=hvs.nW
 have hcap:cap=0:=by simp only[qB,List.length_nil]at a8;omega
 subst hcap
 unfold p6 at hb
 rw[hu]at hb
 simp only at hb
 split at hb
 rotate_left
 ·cases hb
 rename_i i hi
 split at hb
 rotate_left
 ·cases hb
 rename_i hz
 simp only[yAr,beq_iff_eq]at hb
 obtain⟨hsz,hby⟩:=hb
 have hr:=Lib.run_append_grow_zeros (P:=P) c.w t u ty e i (.int .u8 0) .i64 .i64 hu hst hi hz A 0 0 [] (by cases A<;>simp[Builtin.firstCells,loadCells,loadCellsFrom]) k hk (by omega) (by omega) (by omega) (by rw[hby];omega) (by rw[hby];exact growslice_fits (by omega) (by omega))
 obtain⟨C,hC⟩:=gn (grownCap c.w (0+k) 0 e)
 have hge:k<=C:=by have:=grownCap_ge c.w (0+k) 0 e;omega
 have hcm:C<=maxLen:=by rw[<-hC];exact grownCap_le_maxLen c.w (0+k) 0 e (by simp only[maxLen];omega)
 rw[hC,yAp]at hr
 have hzc:(Value.int IntKind.u8 0).cells=#[Value.int .u8 0]:=rfl
 rw[hzc]at hr
 obtain⟨cur,hcur⟩:=gn ((([]:List Value).toArray++Builtin.zeroCells #[Value.int .u8 0] k++Builtin.zeroCells #[Value.int .u8 0] (C-k)))
 rw[hcur]at hr
 have hl:cur.toList=List.replicate k (Value.int .u8 0)++List.replicate (C-k) (Value.int .u8 0):=by
  rw[<-hcur]
  simp only[Array.toList_append,aGT,List.nil_append]
 have hcs:cur.size=C*1:=by
  have:=congrArg List.length hl
  simp only[Array.length_toList,yAa,List.length_replicate]at this
  omega
 have h1:∀v∈cur.toList,v.oneCell'=true:=fun v hv=>by
  rw[hl,List.mem_append]at hv
  rcases hv with hv|hv<;>rw[List.eq_of_mem_replicate hv]<;>rfl
 have lV:c.w.grownBy (c.w.drew.alloc (.cells cur e)) none:=⟨rfl,rfl,rfl,by simp,fun k hk _=>heap_alloc_old c.w.drew _ hk⟩
 have zE:(c.w.drew.alloc (.cells cur e)).heap[c.w.heap.size]?=some (.cells cur e (0,0)):=heap_alloc_new c.w.drew _
 have hbk:∀b,aV (.slice (some ⟨c.w.heap.size,0,none⟩) 0 C)=some b->c.w.heap.size<=b:=fun b hb=>by simp[aV]at hb;omega
 have hvr:aQ c (cur.toList.take (List.replicate k (PD.int .u8 0)).length) (List.replicate k (PD.int .u8 0)):=by
  rw[List.length_replicate,hl,List.take_left' (List.length_replicate ..)]
  refine⟨by simp,fun i v d h1 h2=>?_⟩
  rw[List.eq_of_mem_replicate (yBe h1),List.eq_of_mem_replicate (yBe h2)]
  exact .int _ _
 refine⟨_,_,hr,c.push _ (.slice (some ⟨c.w.heap.size,0,none⟩) 0 C) (.row e 1 0 (List.replicate k (.int .u8 0))),rfl,rfl,?_,Nx.push hs lV hbk,?_,?_⟩
 ·refine Sr.push hs lV (fun b hb=>⟨hbk b hb,?_⟩) ⟨_,C,cur,rfl,zE,hcs,hcm,by omega,by rw[List.length_replicate];omega,hvr,h1⟩
  simp[aV]at hb
  subst hb
  exact gJ zE
 ·refine .aF _ _ _ _ _ _ _ ⟨.inr rfl,fun e' j8 v' cs hq=>?_⟩ (by omega) hcm
  rw[fO.1]at hq
  simp only[yAb,aB.row.injEq]at hq
  obtain⟨rfl,rfl,rfl,rfl⟩:=hq
  exact⟨yAk _,fun _=>⟨rfl,C,fO.2.1,by simp⟩⟩
 ·intro id hd
  rcases hd with hd|rfl
  ·exact .inl hd
  ·exact .inr ⟨yAk _,by simp⟩
theorem aGE(hs:Sr c){t:TypeId}{s:PD}{σ':List aB}(h:QP P fl c.σ t s=some σ'){vs:Value}(hvs:VR c vs s)(ty:TypeId) :
  ∃v w',(Builtin.clear_ #[t] ty #[vs]).run P c.w=.ok v w'/\Leaves fl c (.aH []) σ' v w':=by
 unfold QP at h
 split at h
 rotate_left
 ·cases h
 rename_i e hu
 split at h
 ·simp only[yAb]at h
  subst h
  obtain⟨A,cap,flx,rfl,_⟩:=hvs.nW
  refine⟨.tuple #[],c.w,?_,c,rfl,rfl,hs,.refl _ _,.aH [] [] rfl (by simp),fun _ h=>.inl h⟩
  cases A<;>simp[Builtin.clear_,run_underlying hu]
 ·rename_i id ver off n sz
  split at h
  rotate_left
  ·cases h
  rename_i e' j8 eR cs m z hq hm hz
  split at h
  rotate_left
  ·cases h
  rename_i hc
  obtain⟨hfl,rfl,rfl,rfl,hzl,hzp,hle,hpos⟩:=hc
  simp only[yAb]at h
  subst h
  obtain⟨b,cap,rfl,hp,h1,h2⟩:=hvs.wE
  obtain⟨_,C,hr,hCo⟩:=(hp.2 _ _ _ cs hq).2 rfl
  obtain⟨zv,i,hi,hzv,hzr⟩:=yY (c:=c) hz
  have hcv:=Z5 (c:=c) hzr hzl hpos n
  have dT:=Z6 (c:=c) hzr hzl hpos hzp n
  have hzs:zv.cells.size=m:=by have:=hzr.cells.1;simp at this;omega
  have hzc:madeCells zv.cells (n*m)=Builtin.zeroCells zv.cells n:=by rw[<-hzs];rfl
  rw[hzc]at hcv dT
  obtain⟨w',hst,hs',hn'⟩:=MA (P:=P) (fl:=fl) hs hp.1 hq hr hcv dT (off:=off) (by rw[Z7];exact hle) hfl
  have BV:(zeroValue e).run P c.w=.ok zv c.w:=by simp[zeroValue,typeInfo,hi,hzv]
  by_cases h0:n=0
  ·subst h0
   refine⟨.tuple #[],c.w,by simp[Builtin.clear_,run_underlying hu],c,rfl,?_,hs,.refl _ _,.aH [] [] rfl (by simp),fun _ h=>.inl h⟩
   have e1:qC z m 0=[]:=by simp[qC]
   have e2:cX cs off []=cs:=by simp[cX]
   rw[e1,e2]
   refine List.ext_getElem? fun j=>?_
   rw[List.getElem?_set]
   split
   ·rename_i hj
    subst hj
    rw[if_pos (yA.1 hq).1,hq]
   ·rfl
  ·refine⟨.tuple #[],w',?_,_,rfl,rfl,hs',hn',.aH [] [] rfl (by simp),fun i hi=>.inl hi⟩
   obtain⟨n,rfl⟩:∃k,n=k+1:=⟨n-1,by omega⟩
   simp[Builtin.clear_,run_underlying hu,BV,hst]
 ·cases h
theorem aGU(hs:Sr c){id:Nat}{q q':PD}(hd:c.D id)(hq:c.σ[id]?=some (.box q)){b:Nat}(hr:c.ρ id=.pointer (some ⟨b,0,none⟩)){vs:List Value}{ws:List PD}(hv:aQ c vs ws)
  (hw:ws.all PD.plain=true) {off:Nat} (eC:q.setCells off ws=some q') (hfl:fl<=id) :
  ∃w',(storeCells ⟨b,off,none⟩ vs).run P c.w=.ok () w'/\Sr (c.put w' id (c.ρ id) (.box q'))/\Nx fl c (c.put w' id (c.ρ id) (.box q')):=by
 obtain⟨b',cs,T,e1,e2,e3,e4⟩:=hs.box id q hd hq
 rw[hr]at e1
 simp only[Value.pointer.injEq,yAb,Addr.mk.injEq,and_true]at e1
 subst e1
 obtain⟨hle,hcq⟩:=Z8 eC hw
 have nY:=aQ.uL hv hw
 have hvl:vs.length=ws.length:=hv.1
 have hcl:cs.toList.length=q.cells.length:=e3.1
 have hst:=run_storeCells_at (P:=P) b off T vs 0 cs c.w e2 (by simp at hcl;omega) nY
 simp only[Nat.add_zero]at hst
 refine⟨_,hst,?_,?_⟩
 ·refine Sr.zF (T:=T) hs hd hq hr ⟨rfl,rfl,rfl,by simp⟩ (fun k hk=>setRow_other _ _ _ _ hk) (setRow_heap _ _ cs _ T (0,0) e2) ?_ ?_
  ·rw[hcq]
   exact e3.fill hv nY off hle
  ·refine⟨HU e4.1 nY off (off+vs.length),fun t ds e=>?_⟩
   exact e4.2 t _ (Z9 eC hw e).choose_spec
 ·exact Nx.zF hs hd hq hr hfl ⟨rfl,rfl,rfl,by simp⟩ (fun k hk=>setRow_other _ _ _ _ hk)
theorem QQ(hs:Sr c){st:TypeId}{x:PD}{sz:Nat}{ys:List PD}(h:QR P c.σ st x=some (sz,ys)){vx:Value}(hx:VR c vx x){size:Nat}(hsz:ys.length=0\/sz=size)(k:Nat)(hk:k<=ys.length) :
  ∃cells:List Value,(Builtin.firstCells size k vx).run P c.w=.ok cells.toArray c.w/\(Builtin.lenOf vx).run P c.w=.ok ys.length c.w/\aQ c cells ((ys.take k).flatMap PD.cells)/\∀v∈cells,v.oneCell'=true:=by
 have hflat:∀l:List UInt8,(l.map fun b=>PD.int .u8 b.toNat).flatMap PD.cells=l.map fun b=>PD.int .u8 b.toNat:=HV
 unfold QR at h
 split at h
 ·rename_i l
  split at h
  ·simp only[yAb,yAc]at h
   obtain⟨rfl,rfl⟩:=h
   rw[hx.qA]
   refine⟨(l.take k).map fun b=>.int .u8 b.toNat,?_,?_,?_,?_⟩
   ·simp[Builtin.firstCells,aAa]
   ·simp[Builtin.lenOf,ByteArray.size]
   ·rw[<-List.map_take,hflat]
    refine⟨by simp,fun i v d h1 h2=>?_⟩
    rw[yAo]at h1 h2
    cases hj:(l.take k)[i]? with
    |none=>rw[hj]at h1;cases h1
    |some b=>
     rw[hj]at h1 h2
     simp only[yBc,yAb]at h1 h2
     subst h1 h2
     exact .int _ _
   ·intro v hv
    obtain⟨b,_,rfl⟩:=yAw.1 hv
    rfl
  ·cases h
 ·obtain⟨B,cap,fly,rfl,b1,b2,b3,b4,b5,b6⟩:=Z0 hs h hx
  have hly:fly.length=ys.length*size:=by
   rcases hsz with h0|h0
   ·rw[b3,h0];simp
   ·rw[b3,h0]
  have hkl:(fly.take (k*size)).length=k*size:=by
   rw[yAt,hly]
   have:k*size<=ys.length*size:=Nat.mul_le_mul_right _ hk
   omega
  refine⟨fly.take (k*size),?_,by simp[Builtin.lenOf],?_,fun v hv=>b4 v (yAy hv)⟩
  ·cases B with
   |none=>
    have:fly=[]:=by
     cases fly with
     |nil=>rfl
     |cons x xs=>obtain⟨_,e',_⟩:=b5 0 x rfl;cases e'
    subst this
    simp[Builtin.firstCells]
   |some bd=>
    simp only[Builtin.firstCells]
    exact EM hkl fun j v hj=>by
     rw[yAv]at hj
     split at hj
     ·obtain⟨ad,e',h9⟩:=b5 j v hj
      cases e';exact h9
     ·cases hj
  ·have hs2:∀y∈ys,y.cells.length=size:=fun y hy=>by
    have:ys.length≠0:=by intro e;rw[List.length_eq_zero_iff.1 e]at hy;cases hy
    rw[<-hsz.resolve_left this];exact b2 y hy
   rw[QS _ _ hs2]
   refine⟨by rw[hkl,yAt,<-b6.1,hly];have:k*size<=ys.length*size:=Nat.mul_le_mul_right _ hk;omega,fun i v d h1 h2=>?_⟩
   rw[yAv]at h1 h2
   split at h1
   ·rename_i hi
    rw[if_pos hi]at h2
    exact b6.2 i v d h1 h2
   ·cases h1
theorem aGF(hs:Sr c){dt st:TypeId}{d x p:PD}{σ':List aB}(h:QT P fl c.σ dt st d x=some (p,σ')){vd vx:Value}(hd:VR c vd d)(hx:VR c vx x)(ty:TypeId) :
  ∃v w',(Builtin.copy_ #[dt,st] ty #[vd,vx]).run P c.w=.ok v w'/\Leaves fl c p σ' v w':=by
 unfold QT at h
 split at h
 rotate_left
 ·cases h
 rename_i e sz' ys hu hsrc
 split at h
 rotate_left
 ·cases h
 rename_i sz hsz
 obtain⟨i,hi,hisz⟩:=QU hsz
 split at h
 rotate_left
 ·cases h
 rename_i hc
 have hsize:∀w:World,(sizeOf e).run P w=.ok sz w:=fun w=>lW hsz
 split at h
 ·simp only[yAb,yAc]at h
  obtain⟨rfl,rfl⟩:=h
  obtain⟨A,cap,flx,rfl,_⟩:=hd.nW
  obtain⟨cells,r1,r2,r3,r4⟩:=QQ hs hsrc hx hc 0 (yBf _)
  have hce:cells=[]:=yAf (by rw[r3.1];simp)
  subst hce
  refine⟨.int .i64 0,c.w,?_,c,rfl,rfl,hs,.refl _ _,.int _ _,fun _ h=>.inl h⟩
  have hm:Nat.min ys.length 0=0:=Nat.min_zero _
  cases A<;>simp[Builtin.copy_,run_underlying hu,r2,hsize,hm,r1,goInt,storeCells]
 ·rename_i id off n j8
  split at h
  rotate_left
  ·cases h
  rename_i hc2
  obtain⟨hfl,rfl,hpl⟩:=hc2
  split at h
  rotate_left
  ·cases h
  rename_i q hq
  split at h
  rotate_left
  ·cases h
  rename_i q' eC
  simp only[yAb,yAc]at h
  obtain⟨rfl,rfl⟩:=h
  obtain⟨b,cap,rfl,hD,_,hr,h1,h2⟩:=hd.yW
  obtain⟨cells,r1,r2,r3,r4⟩:=QQ hs hsrc hx hc (Nat.min ys.length n) (Nat.min_le_left _ _)
  have htk:ys.take (Nat.min ys.length n)=ys.take n:=by
   rcases Nat.le_total ys.length n with h|h
   ·rw[show Nat.min ys.length n=ys.length from Nat.min_eq_left h,List.take_length,yAz h]
   ·rw[show Nat.min ys.length n=n from Nat.min_eq_right h]
  rw[htk]at r3
  obtain⟨w',hst,hs',hn'⟩:=aGU (P:=P) (fl:=fl) hs hD hq hr r3 hpl eC hfl
  refine⟨.int .i64 (Nat.min ys.length n),w',?_,_,rfl,rfl,hs',hn',.int _ _,fun i hi=>.inl hi⟩
  simp[Builtin.copy_,run_underlying hu,r2,hsize,r1,goInt,hst]
 ·rename_i id ver off n j8
  split at h
  rotate_left
  ·cases h
  rename_i hc2
  obtain⟨hfl,rfl⟩:=hc2
  split at h
  rotate_left
  ·cases h
  rename_i e' xG eR cs hq
  split at h
  rotate_left
  ·cases h
  rename_i qD
  obtain⟨rfl,rfl,hle⟩:=qD
  simp only[yAb,yAc]at h
  obtain⟨rfl,rfl⟩:=h
  obtain⟨b,cap,rfl,hp,h1,h2⟩:=hd.wE
  obtain⟨_,C,hr,hCo⟩:=(hp.2 _ _ _ cs hq).2 rfl
  obtain⟨cells,r1,r2,r3,r4⟩:=QQ hs hsrc hx hc (Nat.min ys.length n) (Nat.min_le_left _ _)
  have htk:ys.take (Nat.min ys.length n)=ys.take n:=by
   rcases Nat.le_total ys.length n with h|h
   ·rw[show Nat.min ys.length n=ys.length from Nat.min_eq_left h,List.take_length,yAz h]
   ·rw[show Nat.min ys.length n=n from Nat.min_eq_right h]
  rw[htk]at r3
  obtain⟨w',hst,hs',hn'⟩:=MA (P:=P) (fl:=fl) hs hp.1 hq hr r3 r4 hle hfl
  refine⟨.int .i64 (Nat.min ys.length n),w',?_,_,rfl,rfl,hs',hn',.int _ _,fun i hi=>.inl hi⟩
  simp[Builtin.copy_,run_underlying hu,r2,hsize,r1,goInt,hst]
 ·cases h
theorem bytes_beq(a b:List UInt8):(ByteArray.mk a.toArray==ByteArray.mk b.toArray)=(a==b):=by
 have h:(ByteArray.mk a.toArray==ByteArray.mk b.toArray)=(a.toArray==b.toArray):=rfl
 rw[h]
 simp
def HW(d:TypeDesc)(k:PD):Prop:=(d=.string/\∃s,k=.str s)\/∃k0 n,d=.int k0/\k=.int k0 n
theorem aAb{kt:TypeId}{k:PD}(h:EO P kt k=true):∃d,P.underlying kt=some d/\HW d k:=by
 unfold EO at h
 split at h
 ·rename_i s hu
  exact⟨_,hu,.inl ⟨rfl,_,rfl⟩⟩
 ·rename_i k0 k1 n hu
  simp only[beq_iff_eq]at h
  subst h
  exact⟨_,hu,.inr ⟨_,_,rfl,rfl⟩⟩
 ·cases h
theorem aAc{d:TypeDesc}{k q:PD}(hd:HW d k){vk vq:Value}(hk:VR c vk k)(hq:VR c vq q){b:Bool}(h:BW k q=some b):Instr.sameNow d vk vq=some b/\(b=true->vk=vq):=by
 rcases hd with⟨rfl,s,rfl⟩ | ⟨k0,n,rfl,rfl⟩
 ·rw[hk.qA]
  cases q<;>simp only[BW,reduceCtorEq]at h
  rw[hq.qA]
  simp only[yAb]at h
  subst h
  refine⟨by simp only[Instr.sameNow,bytes_beq],fun h=>?_⟩
  rw[eq_of_beq h]
 ·rw[hk.nV]
  cases q<;>simp only[BW,reduceCtorEq]at h
  rw[hq.nV]
  split at h
  ·rename_i hkk
   subst hkk
   simp only[yAb]at h
   subst h
   refine⟨by simp[Instr.sameNow],fun h=>?_⟩
   rw[eq_of_beq h]
  ·cases h
theorem aQ.tail{v:Value}{vs:List Value}{d:PD}{ds:List PD}(h:aQ c (v::vs) (d::ds)):aQ c vs ds:=⟨by have:=h.1;simpa using this,fun i u x a b=>h.2 (i+1) u x (by simpa using a) (by simpa using b)⟩
theorem HX{d:TypeDesc}{k:PD}(hd:HW d k){vk:Value}(hk:VR c vk k):∀(ents:List MapEntry) (ms:List (PD×PD)) (i:Nat) (r:Option (Nat×PD)),aQ c (ents.map MapEntry.key) (ms.map Prod.fst)->aQ c (ents.map MapEntry.val) (ms.map Prod.snd)->uN k ms i=some r ->
  match r with
  |some (j,v)=>∃en,i<=j/\ents[j-i]?=some en/\VR c en.val v/\en.key=vk/\Instr.findNow d vk ents i=some (some (j,en.val))
  |none=>Instr.findNow d vk ents i=some none
 | [],[],i,r,_,_,h=>by
   simp only[uN,yAb]at h
   subst h
   rfl
 | [],_::_,_,_,h,_,_=>by have:=h.1;simp at this
 |_::_,[],_,_,h,_,_=>by have:=h.1;simp at this
 |en::ents,m::ms,i,r,h1,h2,h=>by
  have zG:VR c en.key m.1:=h1.2 0 _ _ rfl rfl
  have gH:VR c en.val m.2:=h2.2 0 _ _ rfl rfl
  unfold uN at h
  split at h
  ·rename_i he
   simp only[yAb]at h
   subst h
   obtain⟨q1,q2⟩:=aAc hd hk zG he
   refine⟨en,yAk _,by simp,gH,(q2 rfl).symm,?_⟩
   simp[Instr.findNow,q1]
  ·rename_i he
   obtain⟨q1,_⟩:=aAc hd hk zG he
   have ih:=HX hd hk ents ms (i+1) r h1.tail h2.tail h
   cases r with
   |none=>
    simp only at ih ⊢
    simp[Instr.findNow,q1,ih]
   |some jv=>
    obtain⟨j,v⟩:=jv
    simp only at ih ⊢
    obtain⟨en',g1,g2,g3,g4,g5⟩:=ih
    refine⟨en',by omega,?_,g3,g4,?_⟩
    ·rw[show j-i=(j-(i+1))+1 by omega]
     simpa using g2
    ·simp[Instr.findNow,q1,g5]
  ·cases h
theorem HY{w:World}{kt:TypeId}{d:TypeDesc}{k:PD}(hu:P.underlying kt=some d)(hd:HW d k){vk:Value}(hk:VR c vk k)(e:Bool):(Instr.checkKey e 10000 kt vk).run P w=.ok () w:=by
 rcases hd with⟨rfl,s,rfl⟩ | ⟨k0,n,rfl,rfl⟩
 ·rw[hk.qA]
  show(Instr.checkKey e (9999+1) kt _).run P w=_
  unfold Instr.checkKey
  simp[run_underlying hu]
 ·rw[hk.nV]
  show(Instr.checkKey e (9999+1) kt _).run P w=_
  unfold Instr.checkKey
  simp[run_underlying hu]
theorem HZ{w:World}{kt:TypeId}{d:TypeDesc}{vk:Value}{l:List MapEntry}{a:Option (Nat×Value)}(hd:P.underlying kt=some d)(h:Instr.findNow d vk l 0=some a):(Instr.findKey kt vk l).run P w=.ok a w:=by
 simp[Instr.findKey,run_underlying hd,Result.andThen,h]
theorem MB{w:World}{r:Nat}{es:Array MapEntry}{clock:Nat}(hb:w.heap[r]?=some (.map es clock)):(getObj r).run P w=.ok (.map es clock) w:=by simp[getObj,Sem.run,hb]
theorem aAd{w:World}{r:Nat}{es:Array MapEntry}{clock:Nat}(o:Obj)(hb:w.heap[r]?=some (.map es clock)):(setObj r o).run P w=.ok () (w.putObj r o):=by simp[setObj,Sem.run,hb,World.putObj]
theorem aGV{d:TypeDesc}{k:PD}(hd:HW d k){vk:Value}(hk:VR c vk k)(w:World):(Instr.keyThatStays vk vk).run P w=.ok vk w:=by
 have:Instr.sameBits 10000 vk vk=true:=by
  rcases hd with⟨rfl,s,rfl⟩ | ⟨k0,n,rfl,rfl⟩
  ·rw[hk.qA];simp only[Instr.sameBits,bytes_beq];simp
  ·rw[hk.nV];simp[Instr.sameBits]
 simp[Instr.keyThatStays,this]
theorem aAe(hs:Sr c){id:Nat}{ms:List (PD×PD)}(hq:c.σ[id]?=some (.map ms)){vx:Value}(hx:VR c vx (.fD id)):∃b ents clock,vx=.map (some b)/\c.D id/\c.ρ id=.map (some b)/\c.w.heap[b]?=some (.map ents clock)/\aQ c (ents.toList.map MapEntry.key) (ms.map Prod.fst)/\aQ c (ents.toList.map MapEntry.val) (ms.map Prod.snd):=by
 obtain⟨b,rfl,hd,_,hr⟩:=hx.aGW
 obtain⟨b',ents,clock,e1,e2,e3,e4⟩:=hs.map id ms hd hq
 rw[hr]at e1
 simp only[Value.map.injEq,yAb]at e1
 subst e1
 exact⟨b,ents,clock,rfl,hd,hr,e2,e3,e4⟩
theorem aGH(hs:Sr c){t:TypeId}{x k p:PD}{ok:Bool}(h:EP P c.σ t x k ok=some p){vx vk:Value}(hx:VR c vx x)(hk:VR c vk k):∃v,(Instr.lookup t vx vk ok).run P c.w=.ok v c.w/\VR c v p:=by
 have two:∀ {v:Value} {q:PD} (b:Bool),VR c v q->VR c (if ok then .tuple #[v,.bool b]else v) (if ok then .aH [q,.bool b]else q):=fun {v q} b hv=>by
  cases ok
  ·exact hv
  ·exact .aH [v,.bool b] [q,.bool b] rfl (fun i u d h1 h2=>by
    match i with
    |0=>simp at h1 h2;subst h1;subst h2;exact hv
    |1=>simp at h1 h2;subst h1;subst h2;exact .bool b
    |i+2=>simp at h1)
 unfold EP at h
 split at h
 rotate_left
 ·cases h
 rename_i kt e hu
 split at h
 rotate_left
 ·cases h
 rename_i hki
 obtain⟨d,hkt,hd⟩:=aAb hki
 split at h
 ·rename_i id
  split at h
  rotate_left
  ·cases h
  rename_i ms hq
  obtain⟨b,ents,clock,rfl,_,_,e2,e3,e4⟩:=aAe hs hq hx
  split at h
  ·rename_i j v hf
   simp only[yAb]at h
   subst h
   obtain⟨en,_,_,g3,_,g5⟩:=HX hd hk _ _ 0 _ e3 e4 hf
   refine⟨_,?_,two true g3⟩
   simp[Instr.lookup,run_underlying hu,MB e2,HY hkt hd hk,HZ hkt g5]
  ·rename_i hf
   split at h
   ·rename_i z hz
    simp only[yAb]at h
    subst h
    obtain⟨zv,i,hi,hzv,hzr⟩:=yY (c:=c) hz
    have g5:=HX hd hk _ _ 0 _ e3 e4 hf
    have BV:(zeroValue e).run P c.w=.ok zv c.w:=by simp[zeroValue,typeInfo,hi,hzv]
    refine⟨_,?_,two false hzr⟩
    simp[Instr.lookup,run_underlying hu,MB e2,HY hkt hd hk,HZ hkt g5,BV]
   ·cases h
  ·cases h
 ·split at h
  ·rename_i z hz
   simp only[yAb]at h
   subst h
   have hvx:vx=.map none:=by cases hx;rfl
   subst hvx
   obtain⟨zv,i,hi,hzv,hzr⟩:=yY (c:=c) hz
   have BV:(zeroValue e).run P c.w=.ok zv c.w:=by simp[zeroValue,typeInfo,hi,hzv]
   have g5:Instr.findNow d vk [] 0=some none:=rfl
   refine⟨_,?_,two false hzr⟩
   simp[Instr.lookup,run_underlying hu,HY hkt hd hk,HZ hkt g5,BV]
  ·cases h
 ·cases h
theorem aQ.set{vs:List Value}{ds:List PD}(h:aQ c vs ds){v:Value}{p:PD}(hv:VR c v p)(j:Nat):aQ c (vs.set j v) (ds.set j p):=by
 refine⟨by simp[h.1],fun i u d h1 h2=>?_⟩
 rw[List.getElem?_set]at h1 h2
 split at h1
 ·rename_i e
  rw[if_pos e]at h2
  split at h1
  ·split at h2
   ·simp only[yAb]at h1 h2;subst h1;subst h2;exact hv
   ·cases h2
  ·cases h1
 ·rename_i e
  rw[if_neg e]at h2
  exact h.2 i u d h1 h2
theorem aGI(hs:Sr c){t:TypeId}{x k v:PD}{σ':List aB}(h:ER P fl c.σ t x k v=some σ'){vx vk vv:Value}(hx:VR c vx x)(hk:VR c vk k)(hv:VR c vv v) :
  ∃w',(Instr.mapUpdate t vx vk vv).run P c.w=.ok () w'/\Leaves fl c (.aH []) σ' undef w':=by
 unfold ER at h
 split at h
 rotate_left
 ·cases h
 rename_i kt e hu
 split at h
 rotate_left
 ·cases h
 rename_i hki
 obtain⟨d,hkt,hd⟩:=aAb hki
 split at h
 rotate_left
 ·cases h
 rename_i id
 split at h
 rotate_left
 ·cases h
 rename_i hfl
 split at h
 rotate_left
 ·cases h
 rename_i ms hq
 obtain⟨b,ents,clock,rfl,hD,hr,e2,e3,e4⟩:=aAe hs hq hx
 have hb:aV (c.ρ id)=some b:=by rw[hr];rfl
 split at h
 ·rename_i j v0 hf
  simp only[yAb]at h
  subst h
  obtain⟨en,_,g2,g3,g4,g5⟩:=HX hd hk _ _ 0 _ e3 e4 hf
  simp only[Nat.sub_zero]at g2
  subst g4
  have g2':ents[j]?=some en:=by simpa using g2
  have hst:(Instr.mapUpdate t (.map (some b)) en.key vv).run P c.w=.ok () (c.w.putObj b (.map (ents.modify j fun e=>{ e with key:=en.key,val:=vv }) clock)):=by
   simp[Instr.mapUpdate,run_underlying hu,MB e2,HY hkt hd hk,HZ hkt g5,g2',aGV hd hk,aAd _ e2]
  have hkeys:((ents.modify j fun e=>{ e with key:=en.key,val:=vv }).toList.map MapEntry.key)=(ents.toList.map MapEntry.key).set j en.key:=by
   apply List.ext_getElem?
   intro i
   simp only[Array.toList_modify,yAo,List.getElem?_modify,List.getElem?_set,yAe]
   by_cases hij:j=i
   ·subst hij
    have hlt:j<ents.toList.length:=(yA.1 g2).1
    simp only[g2,yBc,if_true,if_pos hlt];rfl
   ·simp only[if_neg hij,Option.map_map]
    cases ents.toList[i]?<;>simp
  have hvals:((ents.modify j fun e=>{ e with key:=en.key,val:=vv }).toList.map MapEntry.val)=(ents.toList.map MapEntry.val).set j vv:=by
   apply List.ext_getElem?
   intro i
   simp only[Array.toList_modify,yAo,List.getElem?_modify,List.getElem?_set,yAe]
   by_cases hij:j=i
   ·subst hij
    have hlt:j<ents.toList.length:=(yA.1 g2).1
    simp only[g2,yBc,if_true,if_pos hlt];rfl
   ·simp only[if_neg hij,Option.map_map]
    cases ents.toList[i]?<;>simp
  refine⟨_,hst,_,rfl,rfl,Sr.tL (o':=.map (ms.set j (k,v))) hs hD hq trivial trivial hb e2 (by simp) ⟨⟨_,_,rfl,?_,?_⟩,hr⟩,Nx.tL hs hD hq trivial trivial hb hfl e2 (by simp),H0 _,fun i hi=>.inl hi⟩
  ·rw[hkeys,List.map_set];exact e3.set hk j
  ·rw[hvals,List.map_set];exact e4.set hv j
 ·rename_i hf
  simp only[yAb]at h
  subst h
  have g5:=HX hd hk _ _ 0 _ e3 e4 hf
  have hst:(Instr.mapUpdate t (.map (some b)) vk vv).run P c.w=.ok () (c.w.putObj b (.map (ents.push { key:=vk,val:=vv,born:=clock }) (clock+1))):=by
   simp[Instr.mapUpdate,run_underlying hu,MB e2,HY hkt hd hk,HZ hkt g5,aAd _ e2]
  have one:∀ {v:Value} {p:PD},VR c v p->aQ c [v] [p]:=fun h=>⟨rfl,fun i u d h1 h2=>by
   match i with
   |0=>simp at h1 h2;subst h1;subst h2;exact h
   |i+1=>simp at h1⟩
  refine⟨_,hst,_,rfl,rfl,Sr.tL (o':=.map (ms++[(k,v)])) hs hD hq trivial trivial hb e2 (by simp) ⟨⟨_,_,rfl,?_,?_⟩,hr⟩,Nx.tL hs hD hq trivial trivial hb hfl e2 (by simp),H0 _,fun i hi=>.inl hi⟩
  ·simp only[Array.toList_push,yBh]
   exact e3.append (one hk)
  ·simp only[Array.toList_push,yBh]
   exact e4.append (one hv)
 ·cases h
theorem aGG(hs:Sr c)(t:TypeId):∃v w',(Instr.makeMap t none).run P c.w=.ok v w'/\Leaves fl c (.fD c.σ.length) (c.σ++[.map []]) v w':=by
 have hbk:∀b,aV (.map (some c.w.heap.size))=some b->c.w.heap.size<=b/\b<(c.w.alloc (.map #[] 0)).heap.size:=fun b hb=>by
  simp[aV]at hb;subst hb;simp
 refine⟨.map (some c.w.heap.size),c.w.alloc (.map #[] 0),rfl,c.push (c.w.alloc (.map #[] 0)) (.map (some c.w.heap.size)) (.map []),rfl,rfl,?_,Nx.push hs (wC _ _) (fun b hb=>(hbk b hb).1),?_,?_⟩
 ·exact Sr.push hs (wC _ _) hbk ⟨_,#[],0,rfl,heap_alloc_new _ _,⟨rfl,by simp⟩,⟨rfl,by simp⟩⟩
 ·exact .fD _ _ (.inr rfl) (by rw[fO.1];trivial) fO.2.1
 ·intro id hd
  rcases hd with hd|rfl
  ·exact .inl hd
  ·exact .inr ⟨yAk _,by simp⟩
end
end
section
open Go.RowKit
section
variable{P:Program}{c:Cx}{fl:Nat}
def ZZ(P:Program)(o:Oper)(a:Act)(w:World)(v:Value)(w':World):Prop:=
 (execOp a.eval o).run P w=.ok (.value v) w'\/((execOp a.eval o).run P w=.ok .skip w'/\v=undef)
theorem aGx(hs:Sr c)(hX:Xw fl c){a:Act}{fr:List PD}(hf:FR c a fr){o:Oper}{p:PD}{σ':List aB}(h:dL P fl fr c.σ o.op=some (p,σ')) :
  ∃v w',ZZ P o a c.w v w'/\Leaves fl c p σ' v w':=by
 obtain⟨dst,op,ty,pos,after,guard⟩:=o
 simp only at h
 unfold dL at h
 split at h
 ·rename_i t x
  split at h
  ·rename_i pa h1
   split at h
   ·rename_i q hq
    simp only[yAb,yAc]at h
    obtain⟨rfl,rfl⟩:=h
    obtain⟨v,r,hv⟩:=Y7 hs hq (dW hf h1)
    exact⟨v,c.w,.inl (by simp[execOp,r]),c,rfl,rfl,hs,.refl _ _,hv,fun _ h=>.inl h⟩
   ·simp at h
  ·simp at h
 ·rename_i t x y
  split at h
  ·rename_i pa pb h1 h2
   split at h
   ·rename_i s' hs'
    simp only[yAb,yAc]at h
    obtain⟨rfl,rfl⟩:=h
    obtain⟨w',r,hl⟩:=aGy hs hs' (dW hf h1) (dW hf h2)
    exact⟨undef,w',.inr ⟨by simp[execOp,r],rfl⟩,hl⟩
   ·simp at h
  ·simp at h
 ·rename_i t
  split at h
  ·rename_i q hq
   split at h
   ·rename_i hpl
    simp only[yAb,yAc]at h
    obtain⟨rfl,rfl⟩:=h
    obtain⟨zv,i,hi,hzv,hzr⟩:=yY (c:=c) hq
    obtain⟨r,hl⟩:=QE (P:=P) (fl:=fl) hs (LY hq hi hzv t) (aQ.uL hzr.cells hpl) t (fun t' ds e=>LZ hzr e)
    refine⟨_,_,.inl ?_,hl⟩
    simp[execOp,Instr.alloc,zeroValue,typeInfo,hi,hzv,r]
   ·simp at h
  ·simp at h
 ·rename_i t x
  split at h
  ·rename_i q hq
   split at h
   ·rename_i hpl
    simp only[yAb,yAc]at h
    obtain⟨rfl,rfl⟩:=h
    obtain⟨r,hl⟩:=QE (P:=P) (fl:=fl) hs (dW hf hq).cells (aQ.uL (dW hf hq).cells hpl) t (fun t' ds e=>(by have:=dW hf hq;rw[e]at this;exact this.aGz.elim))
    refine⟨_,_,.inl ?_,hl⟩
    simp[execOp,Instr.box,r]
   ·simp at h
  ·simp at h
 ·rename_i t len parts
  split at h
  ·rename_i ps h1
   split at h
   ·rename_i q hq
    simp only[yAb,yAc]at h
    obtain⟨rfl,rfl⟩:=h
    obtain⟨a1,a2⟩:=L6 hf h1
    obtain⟨v,w',r,hl⟩:=aGA (fl:=fl) hs (vparts:=parts.toList.map fun q=>(q.1,a.eval q.2)) hq (by simpa using a1) (fun i jv jp h3 h4=>by
     rw[yAo]at h4
     cases hx:ps[i]? with
     |none=>rw[hx]at h4;simp at h4
     |some x=>
      rw[hx]at h4;simp only[yBc,yAb]at h4;subst h4
      exact⟨(a2 i jv x h3 hx).1,(a2 i jv x h3 hx).2.strip⟩)
    refine⟨v,w',.inl ?_,hl⟩
    have e:(Array.map (fun x=>match x with|(i,x)=>(i,a.eval x)) parts)=(parts.toList.map fun q=>(q.1,a.eval q.2)).toArray:=by apply Array.ext';simp
    simp only[execOp,Sem.run_bind]
    rw[e,r]
    simp
   ·simp at h
  ·simp at h
 ·rename_i s d x
  split at h
  ·split at h
   ·rename_i q hq
    split at h
    ·rename_i r hr
     simp only[yAb,yAc]at h
     obtain⟨rfl,rfl⟩:=h
     obtain⟨v,w',r,hl⟩:=aGB (fl:=fl) hs hr (dW hf hq)
     exact⟨v,w',.inl (by simp[execOp,r]),hl⟩
    ·split at h
     ·rename_i r hr
      simp only[yAb,yAc]at h
      obtain⟨rfl,rfl⟩:=h
      obtain⟨v,r,hv⟩:=aGC hs hr (dW hf hq)
      exact⟨v,c.w,.inl (by simp[execOp,r]),c,rfl,rfl,hs,.refl _ _,hv,fun _ h=>.inl h⟩
     ·simp at h
   ·simp at h
  ·simp at h
 ·rename_i t l k
  split at h
  ·rename_i e l' k' hu h1 h2
   have hl:∃kl,a.eval l=.int kl (l':Int):=by
    cases hx:bB fr l with
    |none=>rw[hx]at h1;cases h1
    |some q=>
     rw[hx]at h1
     obtain⟨kl,zl,e1,e2,e3⟩:=BR h1 (dW hf hx)
     exact⟨kl,by rw[e1,<-e3];congr 1;omega⟩
   have hk:∃kk,a.eval k=.int kk (k':Int):=by
    cases hx:bB fr k with
    |none=>rw[hx]at h2;cases h2
    |some q=>
     rw[hx]at h2
     obtain⟨kl,zl,e1,e2,e3⟩:=BR h2 (dW hf hx)
     exact⟨kl,by rw[e1,<-e3];congr 1;omega⟩
   obtain⟨kl,hl⟩:=hl
   obtain⟨kk,hk⟩:=hk
   obtain⟨v,w',r,hlv⟩:=aGD (fl:=fl) hs hu h kl kk
   exact⟨v,w',.inl (by simp[execOp,hl,hk,r]),hlv⟩
  ·simp at h
 ·rename_i args ts
  split at h
  ·rename_i s t h1 h2
   split at h
   ·rename_i s' hs'
    simp only[yAb,yAc]at h
    obtain⟨rfl,rfl⟩:=h
    have hv:=qX hf h1
    have hvl:=hv.1
    obtain⟨args⟩:=args
    obtain⟨ts⟩:=ts
    simp only at h1 hv hvl h2
    match args,hv,hvl with
    | [x1],hv,_=>
      subst h2
      obtain⟨v,w',r,hl⟩:=aGE (fl:=fl) hs hs' (hv.2 0 _ _ rfl rfl) ty
      refine⟨v,w',.inl ?_,hl⟩
      simp only[execOp,resolve,invoke,builtin,Sem.run_bind,Sem.run_pure,Result.andThen_ok]
      simp[r]
   ·simp at h
  ·simp at h
 ·rename_i args ts
  split at h
  ·rename_i d x t t' h1 h2
   have hv:=qX hf h1
   have hvl:=hv.1
   obtain⟨args⟩:=args
   obtain⟨ts⟩:=ts
   simp only at h1 hv hvl h2
   match args,hv,hvl with
   | [x1,x2],hv,_=>
     subst h2
     obtain⟨v,w',r,hl⟩:=aGF (fl:=fl) hs h (hv.2 0 _ _ rfl rfl) (hv.2 1 _ _ rfl rfl) ty
     refine⟨v,w',.inl ?_,hl⟩
     simp only[execOp,resolve,invoke,builtin,Sem.run_bind,Sem.run_pure,Result.andThen_ok]
     simp[r]
  ·simp at h
 ·rename_i t
  split at h
  ·simp only[yAb,yAc]at h
   obtain⟨rfl,rfl⟩:=h
   obtain⟨v,w',r,hl⟩:=aGG (P:=P) (fl:=fl) hs t
   exact⟨v,w',.inl (by simp[execOp,r]),hl⟩
  ·simp at h
 ·rename_i t x k ok
  split at h
  ·rename_i m k' h1 h2
   split at h
   ·rename_i q hq
    simp only[yAb,yAc]at h
    obtain⟨rfl,rfl⟩:=h
    obtain⟨v,r,hv⟩:=aGH hs hq (dW hf h1) (dW hf h2)
    exact⟨v,c.w,.inl (by simp[execOp,r]),c,rfl,rfl,hs,.refl _ _,hv,fun _ h=>.inl h⟩
   ·simp at h
  ·simp at h
 ·rename_i t x k v
  split at h
  ·rename_i m k' v' h1 h2 h3
   split at h
   ·rename_i s' hs'
    simp only[yAb,yAc]at h
    obtain⟨rfl,rfl⟩:=h
    obtain⟨w',r,hl⟩:=aGI (fl:=fl) hs hs' (dW hf h1) (dW hf h2) (dW hf h3)
    exact⟨undef,w',.inr ⟨by simp[execOp,r],rfl⟩,hl⟩
   ·simp at h
  ·simp at h
 ·rename_i args ts
  split at h
  ·rename_i s x t t' h1 h2
   split at h
   ·rename_i htt
    subst htt
    have hv:=qX hf h1
    have hvl:=hv.1
    obtain⟨args⟩:=args
    obtain⟨ts⟩:=ts
    simp only at h1 hv hvl h2
    match args,hv,hvl with
    | [x1,x2],hv,_=>
      subst h2
      split at h
      ·rename_i q hq
       simp only[yAb]at h
       subst h
       obtain⟨v,w',r,hl⟩:=aGJ (fl:=fl) hs hq (hv.2 0 _ _ rfl rfl) (hv.2 1 _ _ rfl rfl) ty
       refine⟨v,w',.inl ?_,hl⟩
       simp only[execOp,resolve,invoke,builtin,Sem.run_bind,Sem.run_pure,Result.andThen_ok]
       simp[r]
      ·obtain⟨v,w',r,hl⟩:=aGK hs hX h (hv.2 0 _ _ rfl rfl) (hv.2 1 _ _ rfl rfl).strip ty
       refine⟨v,w',.inl ?_,hl⟩
       simp only[execOp,resolve,invoke,builtin,Sem.run_bind,Sem.run_pure,Result.andThen_ok]
       simp[r]
   ·split at h
    ·rename_i l hst
     split at h
     ·rename_i hb
      have hv:=qX hf h1
      have hvl:=hv.1
      obtain⟨args⟩:=args
      obtain⟨ts⟩:=ts
      simp only at h1 hv hvl h2
      match args,hv,hvl with
      | [x1,x2],hv,_=>
        subst h2
        have hx2:=(hv.2 1 _ _ rfl rfl).qA
        split at h
        ·rename_i q hq
         simp only[yAb]at h
         subst h
         obtain⟨v,w',r,hl⟩:=aGL (fl:=fl) hs hst hb hq (hv.2 0 _ _ rfl rfl) ty
         refine⟨v,w',.inl ?_,hl⟩
         simp only[execOp,resolve,invoke,builtin,Sem.run_bind,Sem.run_pure,Result.andThen_ok]
         simp[hx2,r]
        ·obtain⟨v,w',r,hl⟩:=aGM hs hX hst hb h (hv.2 0 _ _ rfl rfl) ty
         refine⟨v,w',.inl ?_,hl⟩
         simp only[execOp,resolve,invoke,builtin,Sem.run_bind,Sem.run_pure,Result.andThen_ok]
         simp[hx2,r]
     ·simp at h
    ·rename_i m hst
     have hv:=qX hf h1
     have hvl:=hv.1
     obtain⟨args⟩:=args
     obtain⟨ts⟩:=ts
     simp only at h1 hv hvl h2
     match args,hv,hvl with
     | [x1,x2],hv,_=>
       subst h2
       have hx2:=(hv.2 1 _ _ rfl rfl).nV
       obtain⟨v,w',r,hl⟩:=aGN (fl:=fl) hs hst h (hv.2 0 _ _ rfl rfl) ty
       refine⟨v,w',.inl ?_,hl⟩
       simp only[execOp,resolve,invoke,builtin,Sem.run_bind,Sem.run_pure,Result.andThen_ok]
       simp[hx2,r]
    ·simp at h
  ·simp at h
 ·simp at h
theorem aGs(hs:Sr c)(hX:Xw fl c){a:Act}{fr:List PD}(hf:FR c a fr){o:Oper}{p:PD}{σ':List aB}(h:pop P fl fr c.σ o.op=some (p,σ')) :
  ∃v w',ZZ P o a c.w v w'/\Leaves fl c p σ' v w':=by
 unfold pop at h
 split at h
 ·rename_i q hq
  simp only[yAb,yAc]at h
  obtain⟨rfl,rfl⟩:=h
  obtain⟨v,r,hv⟩:=aGO hf hq c.w
  exact⟨v,c.w,.inl r,c,rfl,rfl,hs,.refl _ _,hv,fun _ h=>.inl h⟩
 ·exact aGx hs hX hf h
theorem aGq{a:Act}{fr:List PD}(hf:FR c a fr){o:Oper}{f:FuncId}{ps:List PD}(h:iU fr o.op=some (.inl f,ps)){fn:Func}(hfn:P.funcs[f]?=some fn)(hb:fn.body.isSome=true)(hn:(fn.name== "runtime.NumGoroutine")=false) :
  ∃vs:List Value,(execOp a.eval o).run P c.w=.ok (.enter f vs.toArray) c.w/\aQ c vs ps:=by
 obtain⟨dst,op,ty,pos,after,guard⟩:=o
 simp only at h
 unfold iU at h
 split at h
 ·rename_i g args ts
  split at h
  ·rename_i f' cap qs h1 h2
   simp only[yAb,yAc,Sum.inl.injEq]at h
   obtain⟨rfl,rfl⟩:=h
   obtain⟨cs,e,hcs⟩:=(dW hf h1).HK
   have hv:=qX hf h2
   refine⟨args.toList.map a.eval++cs,?_,hv.append hcs⟩
   have hb':fn.body.isNone=false:=by cases hx:fn.body<;>simp_all
   have e2:(#[]++args.map a.eval++cs.toArray)=(args.toList.map a.eval++cs).toArray:=by apply Array.ext';simp
   simp only[execOp,resolve,e,Deferred.ofValue,Sem.run_bind,Sem.run_pure,Result.andThen_ok,invoke,callFunc,run_program,hfn,hn,hb',yAx,if_false,e2]
  ·rename_i f' first qs h1 h2
   simp only[yAb,yAc,Sum.inl.injEq]at h
   obtain⟨rfl,rfl⟩:=h
   obtain⟨cs,e,hcs⟩:=(dW hf h1).ZS
   have hv:=qX hf h2
   refine⟨cs++args.toList.map a.eval,?_,hcs.append hv⟩
   have hb':fn.body.isNone=false:=by cases hx:fn.body<;>simp_all
   have e2:(cs.toArray++args.map a.eval++#[])=(cs++args.toList.map a.eval).toArray:=by apply Array.ext';simp
   simp only[execOp,resolve,e,Deferred.ofValue,Sem.run_bind,Sem.run_pure,Result.andThen_ok,invoke,callFunc,run_program,hfn,hn,hb',yAx,if_false,e2]
  ·simp at h
  ·simp at h
 ·simp at h
theorem VR.aGP{v:Value}{id:Nat}(h:VR c v (.yield id)):∃l,v=.func (.yield l) #[] #[]/\c.D id/\lU c.σ[id]?/\c.ρ id=.pointer (some ⟨l,0,none⟩):=by
 cases h with|yield _ l h1 h2 h3=>exact⟨l,rfl,h1,h2,h3⟩
theorem aGr{a:Act}{fr:List PD}(hf:FR c a fr){o:Oper}{id:Nat}{ps:List PD}(h:iU fr o.op=some (.inr id,ps)) :
  ∃(l:Nat) (vs:List Value),(∀w:World,(execOp a.eval o).run P w=(Instr.yield l vs.toArray).run P w)/\aQ c vs ps/\c.D id/\c.ρ id=.pointer (some ⟨l,0,none⟩):=by
 obtain⟨dst,op,ty,pos,after,guard⟩:=o
 simp only at h
 unfold iU at h
 split at h
 ·rename_i g args ts
  split at h
  ·simp at h
  ·simp at h
  ·rename_i id' qs h1 h2
   simp only[yAb,yAc,Sum.inr.injEq]at h
   obtain⟨rfl,rfl⟩:=h
   obtain⟨l,e,hd,hn,hr⟩:=(dW hf h1).aGP
   have hv:=qX hf h2
   refine⟨l,args.toList.map a.eval,fun w=>?_,hv,hd,hr⟩
   have e2:(#[]++args.map a.eval)=(args.toList.map a.eval).toArray:=by apply Array.ext';simp
   simp only[execOp,resolve,e,Deferred.ofValue,Sem.run_bind,Sem.run_pure,Result.andThen_ok,invoke,e2]
  ·simp at h
 ·simp at h
end
end
section
inductive PX where
 |normal
 |exit (id:Nat)
 |ret
def PX.HJ:PX->Exit
 |.normal=>.normal
 |.exit id=>.exit id
 |.ret=>.ret
structure PO where
 x:PX
 fr:List PD
 ms:List Nat
 σ:List aB
abbrev dD:=Nat->FuncId ⊕ Nat->List PD->List aB->Option (PD×List aB)
abbrev rS:=Option Nat->Code->Nat->List PD->List Nat->List aB->Option PO
abbrev aD:=FuncId->Option (Nat->List PD->List aB->Option (PD×List aB))
def cP(P:Program)(call:dD)(fl:Nat)(fr:List PD)(σ:List aB)(op:Op):Option (PD×List aB):=
 match iU fr op with
 |some (tg,args)=>call fl tg args σ
 |none=>pop P fl fr σ op
def gF(P:Program)(call:dD)(fl:Nat)(ops:Array Oper):List Oper->List PD->List aB->Option (List PD×List aB)
 | [],fr,σ=>some (fr,σ)
 |o::rest,fr,σ=>
  if Region.wanted o (bI ops fr)then
   match cP P call fl fr σ o.op with
   |some (p,σ')=>gF P call fl ops rest (bE fr o.dst p) σ'
   |none=>none
  else gF P call fl ops rest (bE fr o.dst (.aH [])) σ
def L5(P:Program)(call:dD)(fl:Nat)(ops:Array Oper):List Oper->List PD->List aB->Option (List PD×List aB)
 | ⟨some d,.buildSlice t len parts,_,_,_,none⟩::⟨d2,.convert s t' (.tmp d'),_,_,_,none⟩::rest,fr,σ=>
   match P.underlying t with
   |some (.slice e)=>match P.underlying e with
    |some (.int .u8)=>if s=t/\t'=t/\d'=d/\d<fr.length then
      match o5 fr parts.toList with
      |some ps=>match gG P t len (ps.map fun q=>(q.1,q.2.strip))with
       |some (.slice n xs .full)=>gF P call fl ops rest (bE (fr.set d (.slice n xs .full)) d2 (.slice n xs .full)) σ
       |_=>none
      |none=>none
     else none
    |_=>none
   |_=>none
 |_,_,_=>none
def yT(P:Program)(call:dD)(fl:Nat)(ops:Array Oper)(fr:List PD)(σ:List aB):Option (List PD×List aB):=
 match gF P call fl ops ops.toList fr σ with
 |some x=>some x
 |none=>L5 P call fl ops ops.toList fr σ
def jR:Op->Bool
 |.convert s d _=>!BF s d
 |.move _|.assign _|.pick .. | .binOp .. | .unOp .. | .makeFunc .. | .slice .. | .fieldAddr .. | .field .. | .indexAddr .. | .index .. | .extract .. | .nilCheck _|.build ..=>true
 |.call { callee:=.builtin .len,.. } | .call { callee:=.builtin .min,.. } | .call { callee:=.builtin .max,.. }=>true
 |_=>false
def gX:Op->Bool
 |.load ..=>true
 |.convert s d _=>BF s d
 |_=>false
def dM:Op->Bool
 |.alloc _=>true
 |_=>false
def qS:Op->Bool
 |.buildSlice ..=>true
 |_=>false
def lE:Op->Bool
 |.store ..=>true
 |_=>false
def fM:Op->Bool
 |.box ..=>true
 |.call { callee:=.value _,.. }=>true
 |.call { callee:=.builtin .append,.. }=>true
 |.call { callee:=.builtin .copy,.. }=>true
 |_=>false
def eH(o:Op):Bool:=lE o||fM o
def vY(acc:List Nat)(o:Oper):Nat:=
 o.after.toList.foldl (fun s e=>if Region.binds .any e then s ||| 2^e.on ||| acc.getD e.on 0 else s) 0
def cN:List Oper->List Nat->List Nat
 | [],acc=>acc
 |o::r,acc=>cN r (acc++[vY acc o])
def lC(f:Op->Bool)(ops:List Oper)(i:Nat):Bool:=((ops[i]?).map fun o=>f o.op).getD false
def loose(ms:List Nat)(i j:Nat):Bool:=!(ms.getD i 0).testBit j&&!(ms.getD j 0).testBit i
def lD(ops:List Oper)(ms:List Nat)(k:Nat):Bool:=
 (List.range ops.length).all fun i=>!lC gX ops i||!loose ms i k
def ZP(ops:Array Oper)(i:Nat)(o:Oper):Bool:=
 (List.range ops.size).all fun j=>j==i ||
  match ops[j]? with
  |none=>true
  |some oj=>match oj.dst with
   |none=>true
   |some d=>(o.dst != some d)&&(!(o.looksAt ops).contains d ||
     (if j<i then o.after.any (fun e=>Region.binds .any e&&e.on==j)else oj.after.any (fun e=>Region.binds .any e&&e.on==i)))
def vZ(ops:Array Oper)(ms:List Nat):Bool:=
 Region.noSelect ops &&
 (List.range ops.size).all fun i=>match ops[i]? with
  |none=>true
  |some o=>(jR o.op||gX o.op||dM o.op||qS o.op||eH o.op)&&ZP ops i o&&o.after.all (fun e=>!Region.binds .any e||e.on<i) &&
    (!eH o.op||(List.range i).all fun j=>!lC eH ops.toList j||(ms.getD i 0).testBit j)
def oB(P:Program):List Oper->Option (List aB)
 | []=>some []
 |o::r=>match o.op with
  |.alloc t=>match eE P t,oB P r with
    |some p,some l=>if p.cells.all PD.plain then some (.box (boxed t p)::l)else none
    |_,_=>none
  |_=>oB P r
def nU:PD->Option Nat
 |.ptr id _=>some id
 |.dQ id _ _=>some id
 |.dE id _ _ _=>some id
 |_=>none
def qV(fr:List PD):Op->Option Nat
 |.load _ x=>match bB fr x with|some a=>nU a|none=>none
 |.store _ x _=>match bB fr x with|some a=>nU a|none=>none
 |.convert _ _ x=>match bB fr x with|some a=>nU a|none=>none
 |_=>none
def nS(P:Program)(call:dD)(fl:Nat)(free:Bool)(k:Nat)(fr:List PD)(σ:List aB)(op:Op):Option (PD×List aB):=
 if jR op then(match eP P fr op with|some p=>some (p,σ)|none=>none)
 else if dM op then some (.ptr k 0,σ)
 else if fM op&&!free then
  match cP P call (max fl σ.length) fr σ op with
  |some (p,σ')=>some (p,σ++σ'.drop σ.length)
  |none=>none
 else if fM op then cP P call fl fr σ op
 else dL P fl fr σ op
structure TE where
 fr:List PD
 σ:List aB
 p:PD
 kU:Option Nat
def jC(P:Program)(call:dD)(fl:Nat)(ops:Array Oper)(ms:List Nat):Nat->Nat->List Oper->List PD->List aB->Option (List TE×List PD×List aB)
 |_,_,[],fr,σ=>some ([],fr,σ)
 |i,k,o::rest,fr,σ=>
  let k':=if dM o.op then k+1 else k
  if Region.wanted o (bI ops fr)then
   match nS P call fl (lD ops.toList ms i) k fr σ o.op with
   |some (p,σ')=>match jC P call fl ops ms (i+1) k' rest (bE fr o.dst p) σ' with
    |some (tr,fr',xL)=>some (⟨fr,σ,p,qV fr o.op⟩::tr,fr',xL)
    |none=>none
   |none=>none
  else match jC P call fl ops ms (i+1) k' rest (bE fr o.dst (.aH [])) σ with
   |some (tr,fr',xL)=>some (⟨fr,σ,.aH [],none⟩::tr,fr',xL)
   |none=>none
def tI(ops:List Oper)(ms:List Nat)(tr:List TE):Bool:=
 (List.range ops.length).all fun k=>!lC lE ops k||(List.range ops.length).all fun i=>!lC gX ops i||!loose ms i k ||
  match ((tr[i]?).bind TE.kU),((tr[k]?).bind TE.kU)with
  |some a,some b=>a != b
  |_,_=>true
def tE(P:Program)(call:dD)(fl:Nat)(ops:Array Oper)(fr:List PD)(σ:List aB):Option (List PD×List aB):=
 let ms:=cN ops.toList []
 if vZ ops ms then
  match oB P ops.toList with
  |some hs=>match jC P call fl ops ms 0 σ.length ops.toList fr (σ++hs)with
   |some (tr,fr',σ')=>if tI ops.toList ms tr then some (fr',σ')else none
   |none=>none
  |none=>none
 else none
def BP(P:Program)(call:dD)(fl:Nat)(ops:Array Oper):Nat->Nat->List Oper->List PD->List aB->Option (List TE×List PD×List aB)
 |_,_,[],fr,σ=>some ([],fr,σ)
 |i,k,o::rest,fr,σ=>
  let k':=if dM o.op then k+1 else k
  if Region.wanted o (bI ops fr)then
   match nS P call fl true k fr σ o.op with
   |some (p,σ')=>match BP P call fl ops (i+1) k' rest (bE fr o.dst p) σ' with
    |some (tr,fr',xL)=>some (⟨fr,σ,p,qV fr o.op⟩::tr,fr',xL)
    |none=>none
   |none=>none
  else match BP P call fl ops (i+1) k' rest (bE fr o.dst (.aH [])) σ with
   |some (tr,fr',xL)=>some (⟨fr,σ,.aH [],none⟩::tr,fr',xL)
   |none=>none
def TE.at(tr:List TE)(BQ:List aB)(j:Nat):List aB:=match tr[j]? with
 |some t=>t.σ
 |none=>BQ
def aGw(ops:List Oper)(ms:List Nat)(tr:List TE)(BQ:List aB):Prop:=
 ∀(k i id:Nat) (ok oi:Oper),ops[k]?=some ok->ops[i]?=some oi->fM ok.op=true->gX oi.op=true->loose ms i k=true->(tr[i]?).bind TE.kU=some id ->
  (TE.at tr BQ k).length<=(TE.at tr BQ (k+1)).length/\(id<(TE.at tr BQ k).length->(TE.at tr BQ (k+1))[id]?=(TE.at tr BQ k)[id]?)
open Classical in
def oC(P:Program)(call:dD)(fl:Nat)(ops:Array Oper)(fr:List PD)(σ:List aB):Option (List PD×List aB):=
 match tE P call fl ops fr σ with
 |some x=>some x
 |none=>if vZ ops (cN ops.toList [])then
  match oB P ops.toList with
  |some hs=>match BP P call fl ops 0 σ.length ops.toList fr (σ++hs)with
   |some (tr,fr',σ')=>if tI ops.toList (cN ops.toList []) tr=true/\aGw ops.toList (cN ops.toList []) tr σ' then some (fr',σ')else none
   |none=>none
  |none=>none
 else none
def yQ(P:Program)(fr:List PD)(σ:List aB):ResultVar->Option PD
 |.tmp t=>some (fr.getD t (.aH []))
 |.cell a t=>match fr.getD a (.aH [])with
   |.ptr id off=>o4 P σ t (.ptr id off)
   |_=>none
def v7(P:Program)(fr:List PD)(σ:List aB):List ResultVar->Option (List PD)
 | []=>some []
 |r::rs=>match yQ P fr σ r,v7 P fr σ rs with
  |some p,some ps=>some (p::ps)
  |_,_=>none
def BI:List PD->PD
 | [p]=>p
 |ps=>.aH ps
def xE(fl:Nat):List Nat->List aB->Option (List aB)
 | [],σ=>some σ
 |m::ms,σ=>if fl<=m then(match σ[m]? with
  |some .mark=>xE fl ms (σ.set m .none)
  |_=>none)else none
def BH(fr:List PD):List Tmp->List PD->List PD
 |t::ts,p::ps=>BH (fr.set t p) ts ps
 |_,_=>fr
def LU(code:rS)(fl:Nat)(id:Nat)(args:List PD)(σ:List aB):Option (PD×List aB):=
 if fl<=id then
  match σ[id]? with
  |some (.loop .ready fr ps assign body)=>
   if args.length=ps.length then
    match code (some id) assign fl (BH fr ps args) [] σ with
    |some ⟨.normal,aL,ms1,σ1⟩=>
     match σ1[id]? with
     |some (.loop .ready jS EE EF EG)=>
      match code (some id) body fl aL ms1 (σ1.set id (.loop .busy jS EE EF EG))with
      |some ⟨x,_,_,σ2⟩=>
       match σ2[id]? with
       |some (.loop .busy LV HN LW LX)=>
        match x with
        |.normal=>some (.bool true,σ2.set id (.loop .ready LV HN LW LX))
        |.ret=>some (.bool false,σ2.set id (.loop (.done .ret) LV HN LW LX))
        |.exit k=>some (.bool false,σ2.set id (.loop (.done (.exit k)) LV HN LW LX))
       |_=>none
      |none=>none
     |_=>none
    |_=>none
   else none
  |_=>none
 else none
def fR(P:Program)(fl:Nat)(fn:Func)(r:PO):Option (PD×List aB):=
 match r.x with
 |.exit _=>none
 |_=>match xE fl r.ms r.σ with
  |some σ=>match v7 P r.fr σ fn.results.toList with
   |some ps=>some (BI ps,σ)
   |none=>none
  |none=>none
def BL(P:Program)(code:rS)(fl:Nat)(f:FuncId)(args:List PD)(σ:List aB):Option (PD×List aB):=
 match P.funcs[f]? with
 |some fn=>match fn.body with
  |some c=>match code none c fl (args++List.replicate (fn.ntmps-args.length) (.aH [])) [] σ with
   |some r=>fR P fl fn r
   |none=>none
  |none=>none
 |none=>none
def rP(P:Program)(E:aD)(code:rS):dD
 |fl,.inl f,args,σ=>match E f with
  |some g=>g fl args σ
  |none=>BL P code fl f args σ
 |fl,.inr id,args,σ=>LU code fl id args σ
def HG(id:Nat)(fr:List PD)(ms:List Nat)(σ:List aB):Option PO:=
 match σ[id]? with
 |some (.loop .ready _ _ _ _)=>some ⟨.normal,fr,ms,σ.set id .none⟩
 |some (.loop (.done .ret) _ _ _ _)=>some ⟨.ret,fr,ms,σ.set id .none⟩
 |some (.loop (.done (.exit k)) _ _ _ _)=>some ⟨.exit k,fr,ms,σ.set id .none⟩
 |_=>none
def HL(call:dD)(rd:Option Nat)(gf:FuncId)(cap:List PD)(ps:List Tmp)(assign body:Code)(fl:Nat)(fr:List PD)(ms:List Nat)(σ:List aB):Option PO:=
 if fl<=σ.length then
  match rd with
  |none=>match call fl (.inl gf) (.yield (σ.length+1)::cap) (σ++[.mark]++[.loop .ready fr ps assign body])with
   |some (_,σ2)=>HG (σ.length+1) fr (σ.length::ms) σ2
   |none=>none
  |some l=>match σ[l]? with
   |some (.loop _ _ _ _ _)=>match call fl (.inl gf) (.yield σ.length::cap) (σ++[.loop .ready fr ps assign body])with
    |some (_,σ2)=>HG σ.length fr ms σ2
    |none=>none
   |_=>none
 else none
def iR(P:Program)(E:aD):Nat->rS
 |0=>fun _ _ _ _ _ _=>none
 |n+1=>fun rd c fl fr ms σ=>
  match c with
  |.skip=>some ⟨.normal,fr,ms,σ⟩
  |.region _ ops false=>match yT P (rP P E (iR P E n)) fl ops fr σ with
    |some (fr',σ')=>some ⟨.normal,fr',ms,σ'⟩
    |none=>none
  |.region _ ops true=>match oC P (rP P E (iR P E n)) fl ops fr σ with
    |some (fr',σ')=>some ⟨.normal,fr',ms,σ'⟩
    |none=>none
  |.seq x y=>match iR P E n rd x fl fr ms σ with
    |some ⟨.normal,fr',ms',σ'⟩=>iR P E n rd y fl fr' ms' σ'
    |r=>r
  |.cond g x y=>match bB fr g with
    |some (.bool true)=>iR P E n rd x fl fr ms σ
    |some (.bool false)=>iR P E n rd y fl fr ms σ
    |_=>none
  |.block id b=>match iR P E n rd b fl fr ms σ with
    |some ⟨.exit k,fr',ms',σ'⟩=>some ⟨if k=id then .normal else .exit k,fr',ms',σ'⟩
    |r=>r
  |.loop b=>match iR P E n rd b fl fr ms σ with
    |some ⟨.normal,fr',ms',σ'⟩=>iR P E n rd (.loop b) fl fr' ms' σ'
    |r=>r
  |.rangeFunc g ps assign body=>match bB fr g with
    |some (.func gf cap)=>HL (rP P E (iR P E n)) rd gf cap ps.toList assign body fl fr ms σ
    |_=>none
  |.exit id=>some ⟨.exit id,fr,ms,σ⟩
  |.ret=>some ⟨.ret,fr,ms,σ⟩
  |_=>none
def iP(P:Program)(E:aD)(n:Nat):dD:=rP P E (iR P E n)
end
section
open Go.RowKit
def BN(fl:Nat)(c:Cx)(p:PD)(σ':List aB):Ending->World->Prop
 |.returned v,w'=>Leaves fl c p σ' v w'
 |_,_=>False
structure Ok (F:Fence) (P:Program) (call:dD):Prop where
 fn:∀ {fl:Nat} {f:FuncId} {args:List PD} {c:Cx} {vs:List Value} {p:PD} {σ':List aB},call fl (.inl f) args c.σ=some (p,σ')->Sr c->Xw fl c->aQ c vs args ->
  (∃fn,P.funcs[f]?=some fn/\fn.body.isSome=true)/\∀m,CallsIn F m P f vs.toArray c.w (BN fl c p σ')
 round:∀ {fl id l:Nat} {args:List PD} {c:Cx} {vs:List Value} {p:PD} {σ':List aB},call fl (.inr id) args c.σ=some (p,σ')->Sr c->Xw fl c->aQ c vs args->c.D id->c.ρ id=.pointer (some ⟨l,0,none⟩) ->
  ∃g tmps asg bd,(Instr.yield l vs.toArray).run P c.w=.ok (.round l g tmps asg bd) c.w/\∀m,RoundIn F m P l g tmps asg bd c.w (BN fl c p σ')
theorem Ok.inRound:True:=trivial
structure Open (F:Fence) (P:Program):Prop where
 fn:∀f,F.fn f
 depth:F.depth=none
 name:∀(f:FuncId) fn,P.funcs[f]?=some fn->(fn.name== "runtime.NumGoroutine")=false
 alive:F.alive=false
section
variable{F:Fence}{P:Program}{call:dD}{c:Cx}{fl n:Nat}{Q:Exit->Act->World->Prop}
theorem Open.asks(hF:Open F P):F.depth.isSome=true->1<=n:=by rw[hF.depth];intro h;cases h
theorem ZF(hF:Open F P)(hc:Ok F P call)(hs:Sr c)(hX:Xw fl c){a:Act}{fr:List PD}(hf:FR c a fr){o:Oper}{p:PD}{σ':List aB}
  (h:cP P call fl fr c.σ o.op=some (p,σ')) {K:Act->World->Prop} (hK:∀v w',Leaves fl c p σ' v w'->K (a.put o.dst v) w'):o.wpIn F n P a c.w K Q:=by
 have hnd:∀d,o.op≠.defer d:=by
  intro d e
  rw[e]at h
  simp[cP,iU,pop,eP,dL]at h
 refine⟨fun f _=>hF.fn f,?_⟩
 rw[Oper.semAt_eq _ _ _ hnd]
 unfold cP at h
 split at h
 ·rename_i tg args htg
  cases tg with
  |inl f=>
   obtain⟨vs0,aGp⟩:∃vs:List Value,aQ c vs args:=by
    unfold iU at htg
    split at htg
    ·split at htg
     ·rename_i g args' ts f' cap qs h1 h2
      simp only[yAb,yAc,Sum.inl.injEq]at htg
      obtain⟨rfl,rfl⟩:=htg
      obtain⟨cs,e,hcs⟩:=(dW hf h1).HK
      exact⟨_,(qX hf h2).append hcs⟩
     ·rename_i f' first qs h1 h2
      simp only[yAb,yAc,Sum.inl.injEq]at htg
      obtain⟨rfl,rfl⟩:=htg
      obtain⟨cs,e,hcs⟩:=(dW hf h1).ZS
      exact⟨_,hcs.append (qX hf h2)⟩
     ·simp at htg
     ·simp at htg
    ·simp at htg
   obtain⟨⟨fn,hfn,hb⟩,_⟩:=hc.fn h hs hX aGp
   obtain⟨vs,r,hvs⟩:=aGq (P:=P) hf htg hfn hb (hF.name f fn hfn)
   rw[r]
   refine⟨hF.asks,CallsIn.mono ((hc.fn h hs hX hvs).2 _) fun e w'' he=>?_⟩
   cases e with
   |returned v=>exact hK v w'' he
   |panicked chain=>exact he.elim
   |outgrown=>exact he.elim
  |inr id=>
   obtain⟨l,vs,r,hvs,hd,hr⟩:=aGr (P:=P) hf htg
   obtain⟨g,tmps,asg,bd,ry,hround⟩:=hc.round h hs hX hvs hd hr
   rw[r,ry]
   refine⟨hF.asks,RoundIn.mono (hround _) fun e w'' he=>?_⟩
   cases e with
   |returned v=>exact hK v w'' he
   |panicked chain=>exact he.elim
   |outgrown=>exact he.elim
 ·obtain⟨v,w',hy,hl⟩:=aGs (P:=P) hs hX hf h
  rcases hy with hy | ⟨hy,rfl⟩
  ·rw[hy];exact hK v w' hl
  ·rw[hy];exact hK undef w' hl
theorem FR.put{a:Act}{fr:List PD}(hf:FR c a fr){v:Value}{p:PD}(hv:VR c v p)(dst:Option Tmp):FR c (a.put dst v) (bE fr dst p):=by
 cases dst with
 |none=>exact hf
 |some d=>
  refine⟨⟨by simpa [Act.put,bE]using hf.1.1,fun i u q h1 h2=>?_⟩,hf.2⟩
  simp only[Act.put,bE,Array.toList_setIfInBounds,List.getElem?_set]at h1 h2
  by_cases e:d=i
  ·subst e
   simp only[if_true]at h1 h2
   split at h1
   ·split at h2
    ·simp only[yAb]at h1 h2;subst h1 h2;exact hv
    ·simp at h2
   ·simp at h1
  ·rw[if_neg e]at h1 h2
   exact hf.1.2 i u q h1 h2
theorem VR.undef(c:Cx):VR c undef (.aH []):=.aH [] [] rfl (fun i v d h=>by simp at h)
theorem VR.ZT{v:Value}{p:PD}(h:VR c v p)(b:Bool):v=.bool b↔p=.bool b:=by
 constructor
 ·rintro rfl
  cases h with
  |bool=>rfl
  |eV _ h=>cases h
 ·rintro rfl;cases h;rfl
theorem aGt{a:Act}{fr:List PD}(hf:FR c a fr)(ops:Array Oper)(j:Nat):yielded ops a.tmps j=bI ops fr j:=by
 unfold yielded bI
 cases hd:(ops[j]?).bind (·.dst)with
 |none=>rfl
 |some d=>
  simp only[Option.bind_some]
  have hl:=hf.1.1
  rcases Nat.lt_or_ge d fr.length with hlt|hge
  ·have hlt':d<a.tmps.toList.length:=by rw[hl];exact hlt
   have e1:a.tmps[d]?=some (a.tmps.toList[d]):=by rw[<-Array.getElem?_toList];exact yAh hlt'
   have e2:fr[d]?=some fr[d]:=yAh hlt
   have hv:=hf.1.2 d _ _ (yAh hlt') e2
   rw[e1,e2]
   cases hx:fr[d]with
   |bool b=>rw[hx]at hv;rw[(hv.ZT b).2 rfl]
   |_=>
    rw[hx]at hv
    cases hy:a.tmps.toList[d]with
    |bool b=>rw[hy]at hv;have:=(hv.ZT b).1 rfl;cases this
    |_=>rfl
  ·have e1:a.tmps[d]?=none:=by rw[<-Array.getElem?_toList];exact List.getElem?_eq_none (by rw[hl];exact hge)
   rw[e1,List.getElem?_eq_none hge]
theorem ZE{a:Act}{fr:List PD}(hf:FR c a fr)(ops:Array Oper)(o:Oper):Region.wanted o (yielded ops a.tmps)=Region.wanted o (bI ops fr):=by
 have:yielded ops a.tmps=bI ops fr:=funext fun j=>aGt hf ops j
 rw[this]
theorem YZ(hF:Open F P)(hc:Ok F P call){ops:Array Oper}:∀(l:List Oper) (i:Nat) (_:ops.toList.drop i=l) {c:Cx} (_:Sr c) (_:Xw fl c) {a:Act} {fr:List PD} (_:FR c a fr) {fr':List PD} {σ':List aB}
  (_:gF P call fl ops l fr c.σ=some (fr',σ'))
  (_:∀c' a',c'.σ=σ'->Sr c'->Nx fl c c'->FR c' a' fr'->a'.defers=a.defers->Q .normal a' c'.w),wpOpsIn F n P ops Q (List.range' i l.length) a c.w:=by
 intro l
 induction l with
 |nil=>
  intro i _ c hs hX a fr hf fr' σ' h hQ
  simp only[gF,yAb,yAc]at h
  obtain⟨rfl,rfl⟩:=h
  exact hQ c a rfl hs (.refl _ _) hf rfl
 |cons o rest ih=>
  intro i hdrop c hs hX a fr hf fr' σ' h hQ
  have hi:i<ops.toList.length:=by
   rcases Nat.lt_or_ge i ops.toList.length with h' | h'
   ·exact h'
   ·rw[yAs h']at hdrop;cases hdrop
  have ho:ops[i]?=some o:=by
   have:ops.toList[i]?=some o:=by
    have:=congrArg List.head? hdrop
    simpa [List.head?_drop]using this
   rw[<-Array.getElem?_toList];exact this
  have wB:ops.toList.drop (i+1)=rest:=by
   rw[<-List.drop_drop,hdrop];rfl
  simp only[List.length_cons,List.range'_succ,wpOpsIn,ho]
  rw[ZE hf]
  simp only[gF]at h
  split at h
  ·rename_i hw
   rw[if_pos hw]
   split at h
   ·rename_i p σ1 hst
    refine ZF hF hc hs hX hf hst fun v w' hl=>?_
    obtain⟨c',rfl,rfl,hs',nx,hv,_⟩:=hl
    exact ih (i+1) wB hs' (hX.next hs nx) ((hf.mono nx).put hv _) h
     (fun HT oM e1 e2 e3 e4 e5=>hQ HT oM e1 e2 (nx.trans e3) e4 (e5.trans (by cases o.dst<;>rfl)))
   ·simp at h
  ·rename_i hw
   rw[if_neg hw]
   refine⟨fun f _=>hF.fn f,?_⟩
   exact ih (i+1) wB hs hX (hf.put (VR.undef c) _) h
    (fun HT oM e1 e2 e3 e4 e5=>hQ HT oM e1 e2 e3 e4 (e5.trans (by cases o.dst<;>rfl)))
theorem aFW(hF:Open F P)(hc:Ok F P call){ops:Array Oper}{c:Cx}(hs:Sr c)(hX:Xw fl c){a:Act}{fr:List PD}(hf:FR c a fr){fr':List PD}{σ':List aB}
  (h:L5 P call fl ops ops.toList fr c.σ=some (fr',σ'))
  (hQ:∀c' a',c'.σ=σ'->Sr c'->Nx fl c c'->FR c' a' fr'->a'.defers=a.defers->Q .normal a' c'.w):wpOpsIn F n P ops Q (List.range' 0 ops.toList.length) a c.w:=by
 unfold L5 at h
 split at h
 ·rename_i d t len parts ZU pos1 ZV d2 s t' d' ZW pos2 ZX rest hops
  split at h
  ·rename_i e hu
   split at h
   ·rename_i he
    split at h
    ·rename_i hcond
     obtain⟨hst,htt,hdd,hdl⟩:=hcond
     subst hst
     subst htt
     subst hdd
     split at h
     ·rename_i ps hps
      split at h
      ·rename_i m xs hnew
       obtain⟨a1,a2⟩:=L6 hf hps
       obtain⟨e',cells',mW,hrun,hv⟩:=ZY hs (vparts:=parts.toList.map fun q=>(q.1,a.eval q.2)) hnew (by simpa using a1) (fun i jv jp h3 h4=>by
        rw[yAo]at h4
        cases hx:ps[i]? with
        |none=>rw[hx]at h4;simp at h4
        |some x=>
         rw[hx]at h4;simp only[yBc,yAb]at h4;subst h4
         exact⟨(a2 i jv x h3 hx).1,(a2 i jv x h3 hx).2.strip⟩)
       obtain rfl:e=e':=by rw[hu]at mW;simpa using mW
       have hgr:=aGu c.w e cells'
       obtain⟨fz,hfz⟩:=aGv c.w e cells'
       have hvr:=hv _ fz hgr hfz
       have hmk:=run_mark (P:=P) c.w cells' len len hu he
       have nx:Nx fl c (c.at ((c.w.alloc (.cells cells' e)).freeze ⟨c.w.heap.size,cells'.size,none⟩ 1)):=Nx.grow hs hgr
       have hs':=Sr.grow hs hgr
       obtain⟨v,hvd⟩:∃v:Value,v=.slice (some ⟨c.w.heap.size,0,none⟩) len len:=⟨_,rfl⟩
       rw[<-hvd]at hrun hvr hmk
       have wZ:=((hf.mono nx).put hvr (some d')).put hvr d2
       have h0:ops[0]?=some ⟨some d',.buildSlice t' len parts,ZU,pos1,ZV,none⟩:=by rw[<-Array.getElem?_toList,hops];rfl
       have h1:ops[1]?=some ⟨d2,.convert t' t' (.tmp d'),ZW,pos2,ZX,none⟩:=by rw[<-Array.getElem?_toList,hops];rfl
       have hlen:ops.toList.length=rest.length+2:=by rw[hops];rfl
       rw[hlen,List.range'_succ,List.range'_succ]
       simp only[wpOpsIn,h0,h1,yAp]
       rw[if_pos (show Region.wanted _ _=true from rfl)]
       refine⟨fun f _=>hF.fn f,?_⟩
       rw[Oper.semAt_eq _ _ _ (by intro d e;cases e)]
       have earr:(Array.map (fun x=>match x with|(i,x)=>(i,a.eval x)) parts)=(parts.toList.map fun q=>(q.1,a.eval q.2)).toArray:=by apply Array.ext';simp
       have mF:(execOp a.eval ⟨some d',.buildSlice t' len parts,ZU,pos1,ZV,none⟩).run P c.w=.ok (.value v) (c.w.alloc (.cells cells' e)):=by
        simp only[execOp,Sem.run_bind]
        rw[earr,hrun]
        simp
       rw[mF]
       simp only[Oper.uponIn,Region.wanted,if_true]
       refine⟨fun f _=>hF.fn f,?_⟩
       rw[Oper.semAt_eq _ _ _ (by intro d e;cases e)]
       have hdt:d'<a.tmps.size:=by
        have h9:a.tmps.toList.length=_:=hf.1.1
        rw[Array.length_toList]at h9
        rw[h9]
        exact hdl
       have hev:(a.put (some d') v).eval (.tmp d')=v:=by simp[Act.eval,Act.put,hdt]
       have qT:(execOp (a.put (some d') v).eval ⟨d2,.convert t' t' (.tmp d'),ZW,pos2,ZX,none⟩).run P (c.w.alloc (.cells cells' e))=.ok (.value v) ((c.w.alloc (.cells cells' e)).freeze ⟨c.w.heap.size,cells'.size,none⟩ 1):=by
        simp only[execOp,Sem.run_bind]
        rw[hev,hmk]
        simp
       rw[qT]
       exact YZ hF hc rest 2 (by rw[hops];rfl) hs' (hX.next hs nx) wZ h (fun HT oM e1 e2 e3 e4 e5=>hQ HT oM e1 e2 (nx.trans e3) e4 (e5.trans (by cases d2<;>rfl)))
      ·cases h
     ·cases h
    ·cases h
   ·cases h
  ·cases h
 ·cases h
end
end
section
open Go.RowKit
section
variable{P:Program}{fr fr':List PD}
theorem y6:∀(xs:List Operand),(∀x∈xs,bB fr x=bB fr' x)->gW fr xs=gW fr' xs
 | [],_=>rfl
 |x::xs,h=>by
  unfold gW
  rw[h x (by simp),y6 xs fun y hy=>h y (by simp[hy])]
theorem QK:∀(xs:List (Nat×Operand)),(∀x∈xs.map (·.2),bB fr x=bB fr' x)->o5 fr xs=o5 fr' xs
 | [],_=>rfl
 |(i,x)::xs,h=>by
  unfold o5
  rw[h x (by simp),QK xs fun y hy=>h y (by simp only[List.map_cons,List.mem_cons];exact .inr hy)]
theorem ZG(op:Op)(h:∀x∈op.operands,bB fr x=bB fr' x):eP P fr op=eP P fr' op:=by
 cases op<;>simp only[Op.operands]at h<;>simp only[eP]
 case move x=>exact h x (by simp)
 case assign x=>exact h x (by simp)
 case pick a b c=>rw[h a (by simp),h b (by simp),h c (by simp)]
 case binOp _ _ a b _=>rw[h a (by simp),h b (by simp)]
 case unOp _ _ a=>rw[h a (by simp)]
 case convert _ _ a=>rw[h a (by simp)]
 case makeFunc fn first captured=>
  cases fn<;>simp only
  rw[y6 captured.toList fun x hx=>h x (by simp only[Array.mem_append];exact .inr (by simpa using hx)),y6 first.toList fun x hx=>h x (by simp only[Array.mem_append];exact .inl (by simpa using hx))]
 case slice _ x lo hi mx=>
  have e:bB fr x=bB fr' x:=h x (by simp)
  have e1:lo.map (bB fr)=lo.map (bB fr'):=by cases lo with|none=>rfl|some y=>simp only[yBc];rw[h y (by simp)]
  have e2:hi.map (bB fr)=hi.map (bB fr'):=by cases hi with|none=>rfl|some y=>simp only[yBc];rw[h y (by simp)]
  have e3:mx.map (bB fr)=mx.map (bB fr'):=by cases mx with|none=>rfl|some y=>simp only[yBc];rw[h y (by simp)]
  rw[e,e1,e2,e3]
 case fieldAddr _ a _=>rw[h a (by simp)]
 case field _ a _=>rw[h a (by simp)]
 case indexAddr _ a b=>rw[h a (by simp),h b (by simp)]
 case index _ a b=>rw[h a (by simp),h b (by simp)]
 case extract a _=>rw[h a (by simp)]
 case nilCheck a=>rw[h a (by simp)]
 case build _ ps=>rw[QK ps.toList fun x hx=>h x (by simpa using hx)]
 case call c=>
  obtain⟨callee,args,ts⟩:=c
  cases callee<;>simp only
  rw[y6 args.toList fun x hx=>h x (by simp[Call.operands];exact Array.mem_toList_iff.1 hx)]
theorem L0{fl:Nat}{σ:List aB}(hl:fr.length=fr'.length)(op:Op)(h:∀x∈op.operands,bB fr x=bB fr' x):dL P fl fr σ op=dL P fl fr' σ op:=by
 cases op<;>simp only[Op.operands]at h<;>simp only[dL]
 case load _ a=>rw[h a (by simp)]
 case store _ a b=>rw[h a (by simp),h b (by simp)]
 case box _ a=>rw[h a (by simp)]
 case convert _ _ a=>rw[h a (by simp)]
 case makeSlice _ a b=>rw[h a (by simp),h b (by simp)]
 case lookup _ a b _=>rw[h a (by simp),h b (by simp)]
 case mapUpdate _ a b d=>rw[h a (by simp),h b (by simp),h d (by simp)]
 case makeMap _ r=>cases r<;>rfl
 case buildSlice _ _ ps=>rw[QK ps.toList fun x hx=>h x (by simpa using hx)]
 case call c=>
  obtain⟨callee,args,ts⟩:=c
  cases callee<;>(try simp only)
  rename_i b
  cases b<;>(try simp only)
  case append=>rw[y6 args.toList fun x hx=>h x (by simp[Call.operands];exact Array.mem_toList_iff.1 hx),hl]
  case copy=>rw[y6 args.toList fun x hx=>h x (by simp[Call.operands];exact Array.mem_toList_iff.1 hx)]
  case clear=>rw[y6 args.toList fun x hx=>h x (by simp[Call.operands];exact Array.mem_toList_iff.1 hx)]
theorem aGo(op:Op)(h:∀x∈op.operands,bB fr x=bB fr' x):iU fr op=iU fr' op:=by
 cases op<;>simp only[Op.operands]at h<;>simp only[iU]
 case call c=>
  obtain⟨callee,args,ts⟩:=c
  cases callee<;>simp only
  rename_i g
  rw[y6 args.toList fun x hx=>h x (by simp[Call.operands];exact .inr (Array.mem_toList_iff.1 hx)),h g (by simp[Call.operands])]
theorem ZH{call:dD}{fl:Nat}{σ:List aB}(hl:fr.length=fr'.length)(op:Op)(h:∀x∈op.operands,bB fr x=bB fr' x):cP P call fl fr σ op=cP P call fl fr' σ op:=by
 unfold cP pop
 rw[aGo op h,ZG op h,L0 hl op h]
end
section
variable{c:Cx}{fl:Nat}
def Cx.mU(c:Cx)(w:World)(id:Nat)(v:Value):Cx:=
 { w:=w,ρ:=fun i=>if i=id then v else c.ρ i,σ:=c.σ,D:=fun i=>c.D i\/i=id,X:=c.X }
theorem mG{w:World}{v:Value}{id i:Nat}(h:¬c.D id)(hd:c.D i):(c.mU w id v).ρ i=c.ρ i:=by
 have:i≠id:=by rintro rfl;exact h hd
 simp[Cx.mU,this]
theorem yZ{w:World}{v:Value}{id:Nat}:(c.mU w id v).ρ id=v:=by simp[Cx.mU]
theorem Nv.mU{w':World}{v:Value}{id:Nat}{p:PD}(hn:¬c.D id)(ho:c.σ[id]?=some (.box p))(h:c.w.grownBy w' none)(hv:∀b,aV v=some b->c.w.heap.size<=b):Nv c (c.mU w' id v) where
 cell:=fun a u ha hu=>by
  have hlt:=y7 hu
  refine⟨⟨ha.1,fun i o' hd ho'=>?_⟩,by show w'.cell? a=some u;rw[World.cell?_of_block (h.block a.block hlt (by simp))];exact hu⟩
  rcases hd with hd|rfl
  ·rw[mG hn hd];exact ha.2 i o' hd ho'
  ·rw[yZ]
   have:o'=.box p:=by
    have:c.σ[i]?=some o':=ho'
    rw[ho]at this;simpa using this.symm
   subst this
   intro b hb e
   have:=hv b hb
   omega
 bF:=fun _ h=>.inl h
 qW:=fun i p hd hp=>⟨mG hn hd,p,hp⟩
 mE:=fun i hd hk=>⟨mG hn hd,hk⟩
 rU:=fun i e s n hd hk=>⟨n,hk,yAk _,fun _=>mG hn hd⟩
 rV:=fun i e s v cs hd hk=>⟨v,cs,hk,yAk _,fun _=>mG hn hd⟩
theorem Sr.mU{w':World}{id b:Nat}{p:PD}{cs:Array Value}{T:TypeId}(hs:Sr c)(hn:¬c.D id)(ho:c.σ[id]?=some (.box p))(h:c.w.grownBy w' none)(hb:c.w.heap.size<=b)
  (hw:w'.heap[b]?=some (.cells cs T (0,0))) (hv:aQ c cs.toList p.cells) (h1:(∀v∈cs.toList,v.oneCell'=true)/\∀t ds,p=.typed t ds->T=t):Sr (c.mU w' id (.pointer (some ⟨b,0,none⟩))):=by
 have nv:Nv c (c.mU w' id (.pointer (some ⟨b,0,none⟩))):=Nv.mU hn ho h (fun b' hb'=>by simp[aV]at hb';omega)
 have hgh:Gh (c.mU w' id (.pointer (some ⟨b,0,none⟩))):=fun g hh=>by
  obtain⟨⟨cs',T',fz,e1,e2⟩,e3⟩:=hs.jZ.2 g hh
  refine⟨⟨cs',T',fz,by show w'.heap[g]?=_;rw[h.block g (gJ e1) (by simp)];exact e1,e2⟩,fun i hd hb'=>?_⟩
  rcases hd with hd|rfl
  ·rw[mG hn hd]at hb'
   exact e3 i hd hb'
  ·rw[yZ]at hb'
   simp[aV]at hb'
   have:=gJ e1
   omega
 refine⟨?_,?_,?_,?_,?_,?_,?_,?_,?_,?_,hs.jZ.1.mV nv,hgh⟩
 ·intro i q hd hp
  rcases hd with hd|rfl
  ·obtain⟨b',cs',T',e1,e2,e3,e4⟩:=hs.box i q hd hp
   exact⟨b',cs',T',(mG hn hd).trans e1,by show w'.heap[b']?=_;rw[h.block b' (gJ e2) (by simp)];exact e2,e3.mV nv,e4⟩
  ·have:q=p:=by
    have h':c.σ[i]?=some (.box q):=hp
    rw[ho]at h';simpa using h'.symm
   subst this
   exact⟨b,cs,T,yZ,hw,hv.mV nv,h1⟩
 ·intro i e size n hd hp
  rcases hd with hd|rfl
  ·obtain⟨xs,hx⟩:=hs.own i e size n hd hp
   rw[mG hn hd]
   exact⟨xs,y9 hx (fun g hg=>h.block g (hs.lt i g hd hg) (by simp))⟩
  ·have h':c.σ[i]?=some (.own e size n):=hp
   rw[ho]at h';simp at h'
 ·intro i e size ver ds hd hp
  rcases hd with hd|rfl
  ·obtain⟨b',C,cur,e1,e2,e3,e4,e5,e6,e7,e8⟩:=hs.row i e size ver ds hd hp
   exact⟨b',C,cur,(mG hn hd).trans e1,by show w'.heap[b']?=_;rw[h.block b' (gJ e2) (by simp)];exact e2,e3,e4,e5,e6,e7.mV nv,e8⟩
  ·have h':c.σ[i]?=some (.row e size ver ds):=hp
   rw[ho]at h';simp at h'
 ·intro i es hd hp
  rcases hd with hd|rfl
  ·obtain⟨b',ents,clock,e1,e2,e3,e4⟩:=hs.map i es hd hp
   exact⟨b',ents,clock,(mG hn hd).trans e1,by show w'.heap[b']?=_;rw[h.block b' (gJ e2) (by simp)];exact e2,e3.mV nv,e4.mV nv⟩
  ·have h':c.σ[i]?=some (.map es):=hp
   rw[ho]at h';simp at h'
 ·intro i hd hm
  rcases hd with hd|rfl
  ·obtain⟨b',e1,e2⟩:=hs.mark i hd hm
   exact⟨b',(mG hn hd).trans e1,by show w'.heap[b']?=_;rw[h.block b' (gJ e2) (by simp)];exact e2⟩
  ·have h':c.σ[i]?=some .mark:=hm
   rw[ho]at h';simp at h'
 ·intro i st fr ps asg bd hd hm
  rcases hd with hd|rfl
  ·obtain⟨b',r,e1,e2,e3,e4,e5,e6,e7⟩:=hs.loop i st fr ps asg bd hd hm
   exact⟨b',r,(mG hn hd).trans e1,by show w'.heap[b']?=_;rw[h.block b' (gJ e2) (by simp)];exact e2,e3,e4,e5,e6.mV nv,e7⟩
  ·have h':c.σ[i]?=some (.loop st fr ps asg bd):=hm
   rw[ho]at h';simp at h'
 ·intro i j b' hd hd' hne cY pC
  rcases hd with hd|rfl
  ·rw[mG hn hd]at cY
   rcases hd' with hd' | rfl
   ·rw[mG hn hd']at pC
    exact hs.inj i j b' hd hd' hne cY pC
   ·rw[yZ]at pC
    simp[aV]at pC
    have:=hs.lt i b' hd cY
    omega
  ·rw[yZ]at cY
   simp[aV]at cY
   rcases hd' with hd' | rfl
   ·rw[mG hn hd']at pC
    have:=hs.lt j b' hd' pC
    omega
   ·exact hne rfl
 ·intro i b' hd cY
  rcases hd with hd|rfl
  ·rw[mG hn hd]at cY;exact Nat.lt_of_lt_of_le (hs.lt i b' hd cY) h.size
  ·rw[yZ]at cY
   simp[aV]at cY;subst cY
   exact gJ hw
 ·intro i hd
  rcases hd with hd|rfl
  ·exact hs.bF i hd
  ·exact(yA.1 ho).1
 ·exact fun a ha=>hs.fresh a (Nat.le_trans h.size ha)
theorem Nx.mU{c0:Cx}{w':World}{v:Value}{id:Nat}{p:PD}(n0:Nx fl c0 c)(hn:¬c.D id)(ho:c.σ[id]?=some (.box p))(h:c.w.grownBy w' none)(hv:∀b,aV v=some b->c.w.heap.size<=b)
  (hid:c0.σ.length<=id):Nx fl c0 (c.mU w' id v) where
 X:=n0.X
 os:=h.os.trans n0.os
 tape:=h.tape.trans n0.tape
 output:=h.output.trans n0.output
 size:=Nat.le_trans n0.size h.size
 len:=n0.len
 cell:=fun a u ha hu=>let ⟨q1,q2⟩:=n0.cell a u ha hu;(Nv.mU hn ho h hv).cell a u q1 q2
 bF:=fun i hd=>.inl (n0.bF i hd)
 new:=fun i hd=>by rcases hd with hd|rfl;exact n0.new i hd;exact .inr hid
 qW:=fun i q hd hq=>by
  obtain⟨e,q',eC⟩:=n0.qW i q hd hq
  exact⟨(mG hn (n0.bF i hd)).trans e,q',eC⟩
 mE:=fun i hd hk=>by
  obtain⟨e,hk'⟩:=n0.mE i hd hk
  exact⟨(mG hn (n0.bF i hd)).trans e,hk'⟩
 rU:=fun i e s n hd hk=>by
  obtain⟨n',h1,h2,h3⟩:=n0.rU i e s n hd hk
  exact⟨n',h1,h2,fun hh=>(mG hn (n0.bF i hd)).trans (h3 hh)⟩
 rV:=fun i e s v cs hd hk=>by
  obtain⟨v0,cs0,h1,h2,h3⟩:=n0.rV i e s v cs hd hk
  exact⟨v0,cs0,h1,h2,fun hh=>(mG hn (n0.bF i hd)).trans (h3 hh)⟩
 back:=fun i b hd hb hlt=>by
  rcases hd with hd|rfl
  ·rw[mG hn hd]at hb;exact n0.back i b hd hb hlt
  ·rw[yZ]at hb
   have:=hv b hb
   have:=n0.size
   omega
 frame:=fun k hk hx=>(h.block k (Nat.lt_of_lt_of_le hk n0.size) (by simp)).trans (n0.frame k hk hx)
 ro:=n0.ro
 hole:=n0.hole
def Cx.ahead(c:Cx)(l:List aB):Cx:={ c with σ:=c.σ++l }
theorem rW{l:List aB}{id:Nat}(h:id<c.σ.length):(c.ahead l).σ[id]?=c.σ[id]?:=by simp[Cx.ahead,yAg h]
theorem Nx.ahead(hs:Sr c)(l:List aB):Nx fl c (c.ahead l) where
 X:=rfl
 os:=rfl
 tape:=rfl
 output:=rfl
 size:=yAk _
 len:=by simp[Cx.ahead]
 cell:=fun a v ha hv=>⟨⟨ha.1,fun id o hd ho=>ha.2 id o hd (by rw[rW (hs.bF id hd)]at ho;exact ho)⟩,hv⟩
 bF:=fun _ h=>h
 new:=fun _ h=>.inl h
 qW:=fun id p hd h=>⟨rfl,p,by rw[rW (hs.bF id hd)];exact h⟩
 mE:=fun id hd h=>⟨rfl,by rw[rW (hs.bF id hd)];exact h⟩
 rU:=fun id e s n hd h=>⟨n,by rw[rW (hs.bF id hd)];exact h,yAk _,fun _=>rfl⟩
 rV:=fun id e s v cs hd h=>⟨v,cs,by rw[rW (hs.bF id hd)]at h;exact h,yAk _,fun _=>rfl⟩
 back:=fun _ _ h h' _=>⟨h,h'⟩
 frame:=fun _ _ _=>rfl
 ro:=fun id _ h=>rW h
 hole:=fun id h _=>rW h
theorem Sr.ahead(hs:Sr c)(l:List aB):Sr (c.ahead l) where
 box:=fun id p hd hp=>by
  rw[rW (hs.bF id hd)]at hp
  obtain⟨b,cs,T,e1,e2,e3,e4⟩:=hs.box id p hd hp
  exact⟨b,cs,T,e1,e2,e3.mono (Nx.ahead (fl:=0) hs l),e4⟩
 own:=fun id e size n hd ho=>by rw[rW (hs.bF id hd)]at ho;exact hs.own id e size n hd ho
 row:=fun id e size ver ds hd ho=>by
  rw[rW (hs.bF id hd)]at ho
  obtain⟨b,C,cur,e1,e2,e3,e4,e5,e6,e7,e8⟩:=hs.row id e size ver ds hd ho
  exact⟨b,C,cur,e1,e2,e3,e4,e5,e6,e7.mono (Nx.ahead (fl:=0) hs l),e8⟩
 map:=fun id es hd ho=>by
  rw[rW (hs.bF id hd)]at ho
  obtain⟨b,ents,clock,e1,e2,e3,e4⟩:=hs.map id es hd ho
  exact⟨b,ents,clock,e1,e2,e3.mono (Nx.ahead (fl:=0) hs l),e4.mono (Nx.ahead (fl:=0) hs l)⟩
 mark:=fun id hd hm=>by rw[rW (hs.bF id hd)]at hm;exact hs.mark id hd hm
 loop:=fun id st fr ps asg bd hd hl=>by
  rw[rW (hs.bF id hd)]at hl
  obtain⟨b,r,e1,e2,e3,e4,e5,e6,e7⟩:=hs.loop id st fr ps asg bd hd hl
  exact⟨b,r,e1,e2,e3,e4,e5,e6.mono (Nx.ahead (fl:=0) hs l),e7⟩
 inj:=hs.inj
 lt:=hs.lt
 bF:=fun id hd=>by have:=hs.bF id hd;simp[Cx.ahead];omega
 fresh:=hs.fresh
 jZ:=hs.jZ.mono (Nx.ahead (fl:=0) hs l)
end
end
section
open Go.RowKit
theorem aGn{acc:List Nat}{o:Oper}{k:Nat}(h:(vY acc o).testBit k=true) :
  ∃e∈o.after,Region.binds .any e=true/\(e.on=k\/(acc.getD e.on 0).testBit k=true):=by
 have key:∀(l:List Edge) (s:Nat),(l.foldl (fun s e=>if Region.binds .any e then s ||| 2^e.on ||| acc.getD e.on 0 else s) s).testBit k=true ->
   s.testBit k=true\/∃e∈l,Region.binds .any e=true/\(e.on=k\/(acc.getD e.on 0).testBit k=true):=by
  intro l
  induction l with
  |nil=>intro s h;exact .inl h
  |cons e l ih=>
   intro s h
   simp only[List.foldl_cons]at h
   rcases ih _ h with h1 | ⟨e',h2,h3⟩
   ·split at h1
    ·rename_i hb
     simp only[Nat.testBit_or,Nat.testBit_two_pow,Bool.or_eq_true,decide_eq_true_eq]at h1
     rcases h1 with(h1|h1)|h1
     ·exact .inl h1
     ·exact .inr ⟨e,by simp,hb,.inl h1⟩
     ·exact .inr ⟨e,by simp,hb,.inr h1⟩
    ·exact .inl h1
   ·exact .inr ⟨e',by simp[h2],h3⟩
 rcases key _ _ h with h1 | ⟨e,h2,h3⟩
 ·simp at h1
 ·exact⟨e,Array.mem_toList_iff.1 h2,h3⟩
theorem QH:∀(l:List Oper) (acc:List Nat),(cN l acc).take acc.length=acc
 | [],acc=>by simp[cN]
 |o::r,acc=>by
  have:=QH r (acc++[vY acc o])
  simp only[cN]
  have h2:acc.length<=(acc++[vY acc o]).length:=by simp
  have h3:=congrArg (List.take acc.length) this
  rw[List.take_take,Nat.min_eq_left h2]at h3
  rw[h3]
  simp
theorem ZO:∀(l:List Oper) (acc:List Nat) (i:Nat),(cN l acc)[acc.length+i]?=(l[i]?).map fun o=>vY ((cN l acc).take (acc.length+i)) o
 | [],acc,i=>by simp[cN]
 |o::r,acc,0=>by
  have h1:=QH (o::r) acc
  have h2:=QH r (acc++[vY acc o])
  simp only[Nat.add_zero,h1,List.getElem?_cons_zero,yBc]
  have h3:(cN (o::r) acc)[acc.length]?=((cN r (acc++[vY acc o])).take (acc++[vY acc o]).length)[acc.length]?:=by
   rw[yAv,if_pos (by simp)];rfl
  rw[h3,h2]
  simp
 |o::r,acc,i+1=>by
  have:=ZO r (acc++[vY acc o]) i
  simp only[yAa,List.length_singleton]at this
  simp only[cN,List.getElem?_cons_succ]
  rw[show acc.length+(i+1)=acc.length+1+i by omega]
  exact this
section
variable{ops:Array Oper}
theorem QI{i k:Nat}(h:((cN ops.toList []).getD i 0).testBit k=true) :
  ∃o,ops[i]?=some o/\∃e∈o.after,Region.binds .any e=true/\(e.on=k\/(((cN ops.toList []).take i).getD e.on 0).testBit k=true):=by
 have h1:=ZO ops.toList [] i
 simp only[List.length_nil,yAp,Array.getElem?_toList]at h1
 rw[yBa,h1]at h
 cases ho:ops[i]? with
 |none=>rw[ho]at h;simp at h
 |some o=>
  rw[ho]at h
  simp only[yBc,Option.getD_some]at h
  exact⟨o,rfl,aGn h⟩
theorem QJ{l:List Nat}{i j:Nat}(h:j<i):(l.take i).getD j 0=l.getD j 0:=by
 simp[yBa,h]
structure p8 (ops:Array Oper) (ms:List Nat):Prop where
 aRW:Region.noSelect ops=true
 shape:∀(i:Nat) (o:Oper),ops[i]?=some o->(jR o.op||gX o.op||dM o.op||qS o.op||eH o.op)=true
 once:∀(i:Nat) (o:Oper) (j:Nat) (oj:Oper) (d:Tmp),ops[i]?=some o->ops[j]?=some oj->j≠i->oj.dst=some d->o.dst≠some d
 looks:∀(i:Nat) (o:Oper) (j:Nat) (oj:Oper) (d:Tmp),ops[i]?=some o->ops[j]?=some oj->j≠i->oj.dst=some d->d∈o.looksAt ops ->
  (j<i->∃e∈o.after,Region.binds .any e=true/\e.on=j)/\(i<j->∃e∈oj.after,Region.binds .any e=true/\e.on=i)
 down:∀(i:Nat) (o:Oper),ops[i]?=some o->∀e∈o.after,Region.binds .any e=true->e.on<i
 ord:∀(i:Nat) (o:Oper) (j:Nat) (oj:Oper),ops[i]?=some o->ops[j]?=some oj->eH o.op=true->eH oj.op=true->j<i->(ms.getD i 0).testBit j=true
theorem L1{f:Op->Bool}{i:Nat}{o:Oper}(h:ops[i]?=some o):lC f ops.toList i=f o.op:=by
 simp[lC,h]
theorem oP{i:Nat}{o:Oper}(h:ops[i]?=some o):i<ops.size:=(Array.getElem?_eq_some_iff.1 h).1
theorem LQ{ms:List Nat}(h:vZ ops ms=true):p8 ops ms:=by
 simp only[vZ,yAr,yAn,List.mem_range]at h
 obtain⟨h0,h⟩:=h
 have at':∀(i:Nat) (o:Oper),ops[i]?=some o->_:=fun i o ho=>by
  have:=h i (oP ho)
  simp only[ho,yAr]at this
  exact this
 have ssa:∀(i:Nat) (o:Oper) (j:Nat) (oj:Oper) (d:Tmp),ops[i]?=some o->ops[j]?=some oj->j≠i->oj.dst=some d->_:=fun i o j oj d ho hoj hne hd=>by
  have:=(at' i o ho).1.1.2
  simp only[ZP,yAn,List.mem_range]at this
  have:=this j (oP hoj)
  simp only[hoj,hd,Bool.or_eq_true,beq_iff_eq,hne,false_or,yAr]at this
  exact this
 refine⟨h0,fun i o ho=>(at' i o ho).1.1.1,?_,?_,?_,?_⟩
 ·intro i o j oj d ho hoj hne hd
  simpa using(ssa i o j oj d ho hoj hne hd).1
 ·intro i o j oj d ho hoj hne hd hl
  have:=(ssa i o j oj d ho hoj hne hd).2
  simp only[Bool.not_eq_true',List.contains_eq_mem,decide_eq_false_iff_not,hl,not_true_eq_false,false_or]at this
  refine⟨fun hlt=>?_,fun hlt=>?_⟩
  ·rw[if_pos hlt]at this
   obtain⟨e,he,hb⟩:=Array.any_eq_true'.1 this
   simp only[yAr,beq_iff_eq]at hb
   exact⟨e,he,hb.1,hb.2⟩
  ·rw[if_neg (by omega)]at this
   obtain⟨e,he,hb⟩:=Array.any_eq_true'.1 this
   simp only[yAr,beq_iff_eq]at hb
   exact⟨e,he,hb.1,hb.2⟩
 ·intro i o ho e he hb
  have:=Array.all_eq_true'.1 (at' i o ho).1.2 e he
  simpa [hb]using this
 ·intro i o j oj ho hoj hw hwj hlt
  have:=(at' i o ho).2
  simp only[hw,Bool.not_true,Bool.false_or,yAn,List.mem_range]at this
  have:=this j hlt
  rw[L1 hoj,hwj]at this
  simpa using this
def Lt(listed:Array Bool)(i:Nat):Prop:=listed[i]?=some true
def L2(ops:Array Oper)(S:Nat->Prop):Prop:=∀(i:Nat) (o:Oper),S i->ops[i]?=some o->∀e∈o.after,Region.binds .any e=true->S e.on
theorem ZJ(hr:∀(i:Nat) (o:Oper),ops[i]?=some o->∀e∈o.after,Region.binds .any e=true->e.on<i):∀(i k:Nat),((cN ops.toList []).getD i 0).testBit k=true->k<i:=by
 intro i
 induction i using Nat.strongRecOn with
 |_ i ih=>
  intro k h
  obtain⟨o,ho,e,he,hb,h⟩:=QI h
  have hlt:=hr i o ho e he hb
  rcases h with rfl|h
  ·exact hlt
  ·rw[QJ hlt]at h
   exact Nat.lt_trans (ih _ hlt _ h) hlt
theorem ZK(hr:∀(i:Nat) (o:Oper),ops[i]?=some o->∀e∈o.after,Region.binds .any e=true->e.on<i){S:Nat->Prop}(hS:L2 ops S):∀(i k:Nat),S i->((cN ops.toList []).getD i 0).testBit k=true->S k:=by
 intro i
 induction i using Nat.strongRecOn with
 |_ i ih=>
  intro k hi h
  obtain⟨o,ho,e,he,hb,h⟩:=QI h
  have hlt:=hr i o ho e he hb
  have hs:=hS i o hi ho e he hb
  rcases h with rfl|h
  ·exact hs
  ·rw[QJ hlt]at h
   exact ih _ hlt _ hs h
theorem ZD(hr:∀(i:Nat) (o:Oper),ops[i]?=some o->∀e∈o.after,Region.binds .any e=true->e.on<i){S:Nat->Prop}(hS:L2 ops S){i k:Nat}{o:Oper}(ho:ops[i]?=some o)
  (hi:∀e∈o.after,Region.binds .any e=true->S e.on) (h:((cN ops.toList []).getD i 0).testBit k=true):S k:=by
 obtain⟨o',ho',e,he,hb,h⟩:=QI h
 rw[ho]at ho';simp only[yAb]at ho';subst ho'
 have hlt:=hr i o ho e he hb
 rcases h with rfl|h
 ·exact hi e he hb
 ·rw[QJ hlt]at h
  exact ZK hr hS _ _ (hi e he hb) h
structure oQ (ops:Array Oper) (ps:Nat->PD) (jS:List PD) (S:Nat->Prop) (fr:List PD):Prop where
 len:fr.length=jS.length
 slot:∀x,(∃(j:Nat) (o:Oper),ops[j]?=some o/\S j/\o.dst=some x/\(x<jS.length->fr[x]?=some (ps j)))\/((∀(j:Nat) (o:Oper),ops[j]?=some o->S j->o.dst≠some x)/\fr[x]?=jS[x]?)
variable{ps:Nat->PD}{jS fr fr':List PD}{S T:Nat->Prop}
theorem oQ.start(h:∀j,¬S j):oQ ops ps jS S jS:=⟨rfl,fun _=>.inr ⟨fun j _ _ hj=>absurd hj (h j),rfl⟩⟩
theorem oQ.congr(h:oQ ops ps jS S fr)(hST:∀j,S j↔T j):oQ ops ps jS T fr:=
 ⟨h.len,fun x=>(h.slot x).imp (fun⟨j,o,a,b,r⟩=>⟨j,o,a,(hST j).1 b,r⟩) (fun⟨a,b⟩=>⟨fun j o ho hj=>a j o ho ((hST j).2 hj),b⟩)⟩
theorem oQ.put{ms:List Nat}(hr:p8 ops ms)(h:oQ ops ps jS S fr){i:Nat}{o:Oper}(ho:ops[i]?=some o):oQ ops ps jS (fun j=>S j\/j=i) (bE fr o.dst (ps i)):=by
 cases hd:o.dst with
 |none=>
  refine⟨h.len,fun x=>(h.slot x).imp (fun⟨j,o',a,b,r⟩=>⟨j,o',a,.inl b,r⟩) (fun⟨a,b⟩=>⟨fun j o' ho' hj=>?_,b⟩)⟩
  rcases hj with hj|rfl
  ·exact a j o' ho' hj
  ·rw[ho]at ho';simp only[yAb]at ho';subst ho';rw[hd];simp
 |some d=>
  refine⟨by simpa [bE]using h.len,fun x=>?_⟩
  by_cases e:x=d
  ·subst e
   exact .inl ⟨i,o,ho,.inr rfl,hd,fun hx=>by simp[bE,List.getElem?_set,h.len,hx]⟩
  ·have hne:(bE fr (some d) (ps i))[x]?=fr[x]?:=by simp[bE,yAd (Ne.symm e)]
   rw[hne]
   refine(h.slot x).imp (fun⟨j,o',a,b,r⟩=>⟨j,o',a,.inl b,r⟩) (fun⟨a,b⟩=>⟨fun j o' ho' hj=>?_,b⟩)
   rcases hj with hj|rfl
   ·exact a j o' ho' hj
   ·rw[ho]at ho';simp only[yAb]at ho';subst ho';rw[hd];simpa using Ne.symm e
theorem oQ.agree{ms:List Nat}(hr:p8 ops ms)(h:oQ ops ps jS S fr)(h':oQ ops ps jS T fr'){x:Nat}(hx:∀(j:Nat) (o:Oper),ops[j]?=some o->o.dst=some x->(S j↔T j)):fr[x]?=fr'[x]?:=by
 rcases h.slot x with⟨j,o,ho,hj,hd,hv⟩ | ⟨hno,hv⟩
 ·rcases h'.slot x with⟨j',o',ho',hj',hd',xK⟩ | ⟨ZQ,xK⟩
  ·have:j'=j:=by
    rcases Nat.decEq j' j with hne|heq
    ·exact absurd hd (hr.once j o j' o' x ho ho' hne hd')
    ·exact heq
   subst this
   rcases Nat.lt_or_ge x jS.length with hlt|hge
   ·rw[hv hlt,xK hlt]
   ·rw[List.getElem?_eq_none (by rw[h.len];exact hge),List.getElem?_eq_none (by rw[h'.len];exact hge)]
  ·exact absurd hd (ZQ j o ho ((hx j o ho hd).1 hj))
 ·rcases h'.slot x with⟨j',o',ho',hj',hd',xK⟩ | ⟨ZQ,xK⟩
  ·exact absurd hd' (hno j' o' ho' ((hx j' o' ho' hd').2 hj'))
  ·rw[hv,xK]
theorem oQ.same{ms:List Nat}(hr:p8 ops ms)(h:oQ ops ps jS S fr)(h':oQ ops ps jS T fr')(hx:∀(j:Nat) (o:Oper),ops[j]?=some o->(S j↔T j)):fr=fr':=
 List.ext_getElem? fun _=>h.agree hr h' fun j o ho _=>hx j o ho
def gI(ops:List Oper)(i:Nat):Nat:=((ops.take i).filter fun o=>dM o.op).length
theorem L4{l:List Oper}{i:Nat}{o:Oper}(h:l[i]?=some o):gI l (i+1)=gI l i+if dM o.op then 1 else 0:=by
 unfold gI
 rw[List.take_add_one,h]
 simp only[Option.toList_some,List.filter_append,yAa]
 congr 1
 by_cases hs:dM o.op=true<;>simp[hs]
theorem ZR{l:List Oper}{i j:Nat}(h:i<=j):gI l i<=gI l j:=by
 unfold gI
 have:l.take i=(l.take j).take i:=by rw[List.take_take,Nat.min_eq_left h]
 rw[this]
 exact((List.take_sublist i (l.take j)).filter _).length_le
theorem aGc{l:List Oper}{i j:Nat}{o oj:Oper}(hi:l[i]?=some o)(hj:l[j]?=some oj)(hs:dM o.op=true)(hsj:dM oj.op=true)(hne:i≠j):gI l i≠gI l j:=by
 rcases Nat.lt_or_gt_of_ne hne with h|h
 ·have:=ZR (l:=l) (Nat.succ_le_of_lt h)
  rw[Nat.succ_eq_add_one,L4 hi,if_pos hs]at this
  omega
 ·have:=ZR (l:=l) (Nat.succ_le_of_lt h)
  rw[Nat.succ_eq_add_one,L4 hj,if_pos hsj]at this
  omega
theorem QG{P:Program}:∀ {l:List Oper} {hs:List aB},oB P l=some hs->∀(i:Nat) (o:Oper) (t:TypeId),l[i]?=some o->o.op=.alloc t ->
  ∃z,eE P t=some z/\z.cells.all PD.plain=true/\hs[gI l i]?=some (.box (boxed t z))
 | [],hs,h,i,o,t,hi,_=>by simp at hi
 |o'::r,hs,h,0,o,t,hi,ht=>by
  simp only[List.getElem?_cons_zero,yAb]at hi;subst hi
  unfold oB at h
  rw[ht]at h
  simp only at h
  split at h
  ·rename_i p l hp hl
   split at h
   ·rename_i hpl
    simp only[yAb]at h;subst h
    exact⟨p,hp,hpl,by simp[gI]⟩
   ·simp at h
  ·simp at h
 |o'::r,hs,h,i+1,o,t,hi,ht=>by
  simp only[List.getElem?_cons_succ]at hi
  unfold oB at h
  split at h
  ·rename_i t' ht'
   split at h
   ·rename_i p l hp hl
    split at h
    ·rename_i hpl
     simp only[yAb]at h;subst h
     obtain⟨z,h1,h2,h3⟩:=QG hl i o t hi ht
     refine⟨z,h1,h2,?_⟩
     have:gI (o'::r) (i+1)=gI r i+1:=by simp[gI,ht',dM]
     rw[this,List.getElem?_cons_succ];exact h3
    ·simp at h
   ·simp at h
  ·rename_i hne
   obtain⟨z,h1,h2,h3⟩:=QG h i o t hi ht
   refine⟨z,h1,h2,?_⟩
   have hna:dM o'.op=false:=by
    cases ho:o'.op<;>first|rfl|exact absurd ho (hne _)
   have:gI (o'::r) (i+1)=gI r i:=by simp[gI,hna]
   rw[this];exact h3
structure HS (P:Program) (call:dD) (fl:Nat) (ops:Array Oper) (ms:List Nat) (k0:Nat) (frs:Nat->List PD) (σs:Nat->List aB) (ps:Nat->PD) (ft:Nat->Option Nat) (z:Nat->Bool) (i:Nat) (o:Oper):Prop where
 put:frs (i+1)=bE (frs i) o.dst (ps i)
 run:Region.wanted o (bI ops (frs i))=true->nS P call fl (z i) (k0+gI ops.toList i) (frs i) (σs i) o.op=some (ps i,σs (i+1))/\ft i=qV (frs i) o.op
 skip:Region.wanted o (bI ops (frs i))=false->ps i=.aH []/\σs (i+1)=σs i
theorem aGg{P:Program}{call:dD}{fl k0:Nat}{ms:List Nat}:∀(l:List Oper) (i k:Nat) (fr:List PD) (σ:List aB) (tr:List TE) (fr':List PD) (σ':List aB),ops.toList.drop i=l->k=k0+gI ops.toList i ->
  jC P call fl ops ms i k l fr σ=some (tr,fr',σ')->∃(frs:Nat->List PD) (σs:Nat->List aB) (ps:Nat->PD) (ft:Nat->Option Nat),frs i=fr/\σs i=σ/\frs (i+l.length)=fr'/\σs (i+l.length)=σ' /\
   (∀(j:Nat) (o:Oper),i<=j->ops[j]?=some o->HS P call fl ops ms k0 frs σs ps ft (fun i=>lD ops.toList ms i) j o)/\(∀j,i<=j->j<i+l.length->ft j=(tr[j-i]?).bind TE.kU):=by
 intro l
 induction l with
 |nil=>
  intro i k fr σ tr fr' σ' hdrop hk h
  simp only[jC,yAb,yAc]at h
  obtain⟨rfl,rfl,rfl⟩:=h
  refine⟨fun _=>fr,fun _=>σ,fun _=>default,fun _=>none,rfl,rfl,rfl,rfl,fun j o hj ho=>?_,fun j h1 h2=>absurd h2 (by simp;omega)⟩
  have:=oP ho
  have h2:ops.toList.length<=i:=List.drop_eq_nil_iff.1 hdrop
  simp at h2;omega
 |cons o rest ih=>
  intro i k fr σ tr fr' σ' hdrop hk h
  have ho:ops[i]?=some o:=by
   have:=congrArg List.head? hdrop
   rw[List.head?_drop]at this
   simpa using this
  have wB:ops.toList.drop (i+1)=rest:=by rw[<-List.drop_drop,hdrop];rfl
  have hk':(if dM o.op then k+1 else k)=k0+gI ops.toList (i+1):=by
   rw[L4 (by simpa using ho),hk];split<;>omega
  simp only[jC]at h
  have lift:∀(p:PD) (σ1:List aB) (kU:Option Nat) (p9:List TE),jC P call fl ops ms (i+1) (if dM o.op then k+1 else k) rest (bE fr o.dst p) σ1=some (p9,fr',σ') ->
    tr=⟨fr,σ,p,kU⟩::p9->(Region.wanted o (bI ops fr)=true->nS P call fl (lD ops.toList ms i) (k0+gI ops.toList i) fr σ o.op=some (p,σ1)/\kU=qV fr o.op) ->
    (Region.wanted o (bI ops fr)=false->p=.aH []/\σ1=σ)->∃(frs:Nat->List PD) (σs:Nat->List aB) (ps:Nat->PD) (ft:Nat->Option Nat),frs i=fr/\σs i=σ/\frs (i+(o::rest).length)=fr'/\σs (i+(o::rest).length)=σ' /\
   (∀(j:Nat) (o:Oper),i<=j->ops[j]?=some o->HS P call fl ops ms k0 frs σs ps ft (fun i=>lD ops.toList ms i) j o)/\(∀j,i<=j->j<i+(o::rest).length->ft j=(tr[j-i]?).bind TE.kU):=by
   intro p σ1 kU p9 h1 htr hrun hskip
   obtain⟨frs,σs,ps,ft,e1,e2,e3,e4,h5,h6⟩:=ih (i+1) _ _ _ _ _ _ wB hk' h1
   refine⟨fun j=>if j=i then fr else frs j,fun j=>if j=i then σ else σs j,fun j=>if j=i then p else ps j,fun j=>if j=i then kU else ft j,by simp,by simp,?_,?_,?_,?_⟩
   ·have hne:i+(o::rest).length≠i:=by simp
    simp only[if_neg hne]
    rw[show i+(o::rest).length=i+1+rest.length by simp;omega];exact e3
   ·have hne:i+(o::rest).length≠i:=by simp
    simp only[if_neg hne]
    rw[show i+(o::rest).length=i+1+rest.length by simp;omega];exact e4
   ·intro j oj hj hoj
    by_cases e:j=i
    ·subst e
     rw[ho]at hoj;simp only[yAb]at hoj;subst hoj
     refine⟨?_,fun hw=>?_,fun hw=>?_⟩
     ·simp[e1]
     ·simp only[if_true]at hw ⊢
      simp only[Nat.succ_ne_self,if_false,e2]
      exact hrun hw
     ·simp only[if_true]at hw ⊢
      simp only[Nat.succ_ne_self,if_false,e2]
      exact hskip hw
    ·have h7:=h5 j oj (by omega) hoj
     have hne:j+1≠i:=by omega
     refine⟨?_,?_,?_⟩
     ·simp only[if_neg e,if_neg hne];exact h7.put
     ·simp only[if_neg e,if_neg hne];exact h7.run
     ·simp only[if_neg e,if_neg hne];exact h7.skip
   ·intro j hj hlt
    by_cases e:j=i
    ·subst e
     simp[htr]
    ·simp only[if_neg e]
     rw[h6 j (by omega) (by simp at hlt;omega),htr,show j-i=(j-(i+1))+1 by omega,List.getElem?_cons_succ]
  split at h
  ·rename_i hw
   split at h
   ·rename_i p σ1 hp
    split at h
    ·rename_i p9 aL σ2 hrec
     simp only[yAb,yAc]at h
     obtain⟨rfl,rfl,rfl⟩:=h
     exact lift p σ1 _ p9 hrec rfl (fun _=>⟨by rw[<-hk];exact hp,rfl⟩) (fun hf=>by rw[hw]at hf;cases hf)
    ·simp at h
   ·simp at h
  ·rename_i hw
   split at h
   ·rename_i p9 aL σ2 hrec
    simp only[yAb,yAc]at h
    obtain⟨rfl,rfl,rfl⟩:=h
    exact lift (.aH []) σ none p9 hrec rfl (fun ht=>absurd ht hw) (fun _=>⟨rfl,rfl⟩)
   ·simp at h
theorem aGh{P:Program}{call:dD}{fl k0:Nat}{ms:List Nat}:∀(l:List Oper) (i k:Nat) (fr:List PD) (σ:List aB) (tr:List TE) (fr':List PD) (σ':List aB),ops.toList.drop i=l->k=k0+gI ops.toList i ->
  BP P call fl ops i k l fr σ=some (tr,fr',σ')->∃(frs:Nat->List PD) (σs:Nat->List aB) (ps:Nat->PD) (ft:Nat->Option Nat),frs i=fr/\σs i=σ/\frs (i+l.length)=fr'/\σs (i+l.length)=σ' /\
   (∀(j:Nat) (o:Oper),i<=j->ops[j]?=some o->HS P call fl ops ms k0 frs σs ps ft (fun _=>true) j o)/\(∀j,i<=j->j<i+l.length->ft j=(tr[j-i]?).bind TE.kU)/\(∀j,i<=j->σs j=TE.at tr σ' (j-i)):=by
 intro l
 induction l with
 |nil=>
  intro i k fr σ tr fr' σ' hdrop hk h
  simp only[BP,yAb,yAc]at h
  obtain⟨rfl,rfl,rfl⟩:=h
  refine⟨fun _=>fr,fun _=>σ,fun _=>default,fun _=>none,rfl,rfl,rfl,rfl,fun j o hj ho=>?_,fun j h1 h2=>absurd h2 (by simp;omega),fun j _=>by simp[TE.at]⟩
  have:=oP ho
  have h2:ops.toList.length<=i:=List.drop_eq_nil_iff.1 hdrop
  simp at h2;omega
 |cons o rest ih=>
  intro i k fr σ tr fr' σ' hdrop hk h
  have ho:ops[i]?=some o:=by
   have:=congrArg List.head? hdrop
   rw[List.head?_drop]at this
   simpa using this
  have wB:ops.toList.drop (i+1)=rest:=by rw[<-List.drop_drop,hdrop];rfl
  have hk':(if dM o.op then k+1 else k)=k0+gI ops.toList (i+1):=by
   rw[L4 (by simpa using ho),hk];split<;>omega
  simp only[BP]at h
  have lift:∀(p:PD) (σ1:List aB) (kU:Option Nat) (p9:List TE),BP P call fl ops (i+1) (if dM o.op then k+1 else k) rest (bE fr o.dst p) σ1=some (p9,fr',σ') ->
    tr=⟨fr,σ,p,kU⟩::p9->(Region.wanted o (bI ops fr)=true->nS P call fl (true) (k0+gI ops.toList i) fr σ o.op=some (p,σ1)/\kU=qV fr o.op) ->
    (Region.wanted o (bI ops fr)=false->p=.aH []/\σ1=σ)->∃(frs:Nat->List PD) (σs:Nat->List aB) (ps:Nat->PD) (ft:Nat->Option Nat),frs i=fr/\σs i=σ/\frs (i+(o::rest).length)=fr'/\σs (i+(o::rest).length)=σ' /\
   (∀(j:Nat) (o:Oper),i<=j->ops[j]?=some o->HS P call fl ops ms k0 frs σs ps ft (fun _=>true) j o)/\(∀j,i<=j->j<i+(o::rest).length->ft j=(tr[j-i]?).bind TE.kU)/\(∀j,i<=j->σs j=TE.at tr σ' (j-i)):=by
   intro p σ1 kU p9 h1 htr hrun hskip
   obtain⟨frs,σs,ps,ft,e1,e2,e3,e4,h5,h6,h7⟩:=ih (i+1) _ _ _ _ _ _ wB hk' h1
   refine⟨fun j=>if j=i then fr else frs j,fun j=>if j=i then σ else σs j,fun j=>if j=i then p else ps j,fun j=>if j=i then kU else ft j,by simp,by simp,?_,?_,?_,?_,?_⟩
   ·have hne:i+(o::rest).length≠i:=by simp
    simp only[if_neg hne]
    rw[show i+(o::rest).length=i+1+rest.length by simp;omega];exact e3
   ·have hne:i+(o::rest).length≠i:=by simp
    simp only[if_neg hne]
    rw[show i+(o::rest).length=i+1+rest.length by simp;omega];exact e4
   ·intro j oj hj hoj
    by_cases e:j=i
    ·subst e
     rw[ho]at hoj;simp only[yAb]at hoj;subst hoj
     refine⟨?_,fun hw=>?_,fun hw=>?_⟩
     ·simp[e1]
     ·simp only[if_true]at hw ⊢
      simp only[Nat.succ_ne_self,if_false,e2]
      exact hrun hw
     ·simp only[if_true]at hw ⊢
      simp only[Nat.succ_ne_self,if_false,e2]
      exact hskip hw
    ·have h8:=h5 j oj (by omega) hoj
     have hne:j+1≠i:=by omega
     refine⟨?_,?_,?_⟩
     ·simp only[if_neg e,if_neg hne];exact h8.put
     ·simp only[if_neg e,if_neg hne];exact h8.run
     ·simp only[if_neg e,if_neg hne];exact h8.skip
   ·intro j hj hlt
    by_cases e:j=i
    ·subst e
     simp[htr]
    ·simp only[if_neg e]
     rw[h6 j (by omega) (by simp at hlt;omega),htr,show j-i=(j-(i+1))+1 by omega,List.getElem?_cons_succ]
   ·intro j hj
    by_cases e:j=i
    ·subst e
     simp[htr,TE.at]
    ·simp only[if_neg e]
     rw[h7 j (by omega),htr,show j-i=(j-(i+1))+1 by omega]
     simp[TE.at]
  split at h
  ·rename_i hw
   split at h
   ·rename_i p σ1 hp
    split at h
    ·rename_i p9 aL σ2 hrec
     simp only[yAb,yAc]at h
     obtain⟨rfl,rfl,rfl⟩:=h
     exact lift p σ1 _ p9 hrec rfl (fun _=>⟨by rw[<-hk];exact hp,rfl⟩) (fun hf=>by rw[hw]at hf;cases hf)
    ·simp at h
   ·simp at h
  ·rename_i hw
   split at h
   ·rename_i p9 aL σ2 hrec
    simp only[yAb,yAc]at h
    obtain⟨rfl,rfl,rfl⟩:=h
    exact lift (.aH []) σ none p9 hrec rfl (fun ht=>absurd ht hw) (fun _=>⟨rfl,rfl⟩)
   ·simp at h
end
end
section
open Go.RowKit
section
variable{P:Program}{call:dD}{fl k:Nat}{free:Bool}{fr:List PD}{σ σ':List aB}{op:Op}{p:PD}
theorem HI(h:gX op=true\/qS op=true\/lE op=true):eP P fr op=none/\iU fr op=none/\jR op=false/\dM op=false/\fM op=false:=by
 by_cases hc:∃s d x,op=.convert s d x
 ·obtain⟨s,d,x,rfl⟩:=hc
  have ht:BF s d=true:=by rcases h with h|h|h<;>first|exact h|cases h
  exact⟨by simp only[eP,ht,if_true],rfl,by simp only[jR,ht,Bool.not_true],rfl,rfl⟩
 cases op<;>simp[gX,qS,lE]at h hc<;>simp[eP,iU,jR,dM,fM]
theorem YW(h:jR op=true):iU fr op=none/\dM op=false/\eH op=false/\gX op=false:=by
 by_cases hc:∃s d x,op=.convert s d x
 ·obtain⟨s,d,x,rfl⟩:=hc
  have ht:BF s d=false:=by simpa only[jR,Bool.not_eq_true']using h
  exact⟨rfl,rfl,rfl,ht⟩
 cases op<;>simp[jR]at h hc<;>simp[iU,dM,eH,lE,fM,gX]
 rename_i c
 obtain⟨callee,args,ts⟩:=c
 cases callee<;>simp at h ⊢
 rename_i b
 cases b<;>simp at h ⊢
theorem aGj(h:fM op=true):jR op=false/\dM op=false/\gX op=false/\lE op=false:=by
 cases op<;>simp[fM]at h<;>simp[jR,dM,gX,lE]
 rename_i c
 obtain⟨callee,args,ts⟩:=c
 cases callee with
 |value f=>rfl
 |invoke r m=>simp at h
 |builtin b=>cases b<;>simp at h ⊢
theorem aGa(h:dM op=true):jR op=false/\eH op=false/\gX op=false/\∃t,op=.alloc t:=by
 cases op<;>simp[dM]at h<;>simp[jR,eH,lE,fM,gX]
theorem aGk(hl:gX op=true\/qS op=true)(h:dL P fl fr σ op=some (p,σ')):σ'=σ:=by
 by_cases hc:∃s d x,op=.convert s d x
 ·obtain⟨s,d,x,rfl⟩:=hc
  simp only[dL]at h
  repeat' split at h
  all_goals first
   |(simp only[yAb,yAc]at h;exact h.2.symm)
   |(cases h;done)
 cases op<;>simp[gX,qS]at hl hc
 ·simp only[dL]at h
  split at h
  ·split at h
   ·simp only[yAb,yAc]at h;exact h.2.symm
   ·simp at h
  ·simp at h
 ·simp only[dL]at h
  split at h
  ·split at h
   ·simp only[yAb,yAc]at h;exact h.2.symm
   ·simp at h
  ·simp at h
theorem aGl(hl:lE op=true)(h:dL P fl fr σ op=some (p,σ')):∃id o,qV fr op=some id/\σ'=σ.set id o:=by
 cases op<;>simp[lE]at hl
 rename_i t x y
 simp only[dL]at h
 split at h
 ·rename_i a q h1 h2
  split at h
  ·rename_i s hs
   simp only[yAb,yAc]at h
   obtain⟨rfl,rfl⟩:=h
   unfold mC at hs
   split at hs
   ·rename_i id off
    split at hs
    ·split at hs
     ·split at hs
      ·split at hs
       ·simp only[yAb]at hs
        exact⟨id,_,by simp[qV,h1,nU],hs.symm⟩
       ·simp at hs
      ·simp at hs
     ·simp at hs
    ·simp at hs
   ·rename_i id ver off
    split at hs
    ·split at hs
     ·split at hs
      ·simp only[yAb]at hs
       exact⟨id,_,by simp[qV,h1,nU],hs.symm⟩
      ·simp at hs
     ·simp at hs
    ·simp at hs
   ·simp at hs
  ·simp at h
 ·simp at h
theorem aGm(hs:(jR op||gX op||dM op||qS op||eH op)=true)(hw:eH op=false)(h:nS P call fl free k fr σ op=some (p,σ')):σ'=σ:=by
 unfold nS at h
 split at h
 ·split at h
  ·simp only[yAb,yAc]at h;exact h.2.symm
  ·simp at h
 ·rename_i hA
  split at h
  ·simp only[yAb,yAc]at h;exact h.2.symm
  ·rename_i hB
   have hm:fM op=false:=by simp[eH]at hw;exact hw.2
   rw[hm]at h
   simp only[Bool.false_and,yAx,if_false]at h
   refine aGk ?_ h
   simp[hw,Bool.not_eq_true]at hs hA hB
   rw[hA,hB]at hs
   simpa using hs
end
section
variable{P:Program}{call:dD}{fl k0:Nat}{ops:Array Oper}{ms:List Nat}{frs:Nat->List PD}{σs:Nat->List aB}{ps:Nat->PD}{ft:Nat->Option Nat}{z:Nat->Bool}
def oO(P:Program)(call:dD)(fl:Nat)(ops:Array Oper)(ms:List Nat)(k0:Nat)(frs:Nat->List PD)(σs:Nat->List aB)(ps:Nat->PD)(ft:Nat->Option Nat)(z:Nat->Bool):Prop:=
 ∀(i:Nat) (o:Oper),ops[i]?=some o->HS P call fl ops ms k0 frs σs ps ft z i o
theorem oO.still(hr:p8 ops ms)(ht:oO P call fl ops ms k0 frs σs ps ft z){i:Nat}{o:Oper}(ho:ops[i]?=some o)(hw:eH o.op=false):σs (i+1)=σs i:=by
 cases hwt:Region.wanted o (bI ops (frs i))with
 |true=>exact aGm (hr.shape i o ho) hw ((ht i o ho).run hwt).1
 |false=>exact((ht i o ho).skip hwt).2
theorem oO.QD(hr:p8 ops ms)(ht:oO P call fl ops ms k0 frs σs ps ft z){i:Nat}:∀(d:Nat),i+d<=ops.size->(∀j o,i<=j->j<i+d->ops[j]?=some o->eH o.op=false)->σs (i+d)=σs i
 |0,_,_=>rfl
 |d+1,hn,h=>by
  have ih:=ht.QD hr d (by omega) fun j o h1 h2 ho=>h j o h1 (by omega) ho
  have ho:ops[i+d]?=some ops[i+d]:=Array.getElem?_eq_getElem (by omega)
  rw[show i+(d+1)=i+d+1 by omega,ht.still hr ho (h _ _ (by omega) (by omega) ho),ih]
def HQ(ops:Array Oper)(ms:List Nat)(ft:Nat->Option Nat)(z:Nat->Bool)(σs:Nat->List aB):Prop:=
 (∀(k i:Nat) (ok oi:Oper),ops[k]?=some ok->ops[i]?=some oi->lE ok.op=true->gX oi.op=true->loose ms i k=true->∀a b,ft i=some a->ft k=some b->a≠b) /\
 ∀(k i:Nat) (ok oi:Oper) (id:Nat),ops[k]?=some ok->ops[i]?=some oi->fM ok.op=true->gX oi.op=true->loose ms i k=true->z k=true->ft i=some id ->
  (σs k).length<=(σs (k+1)).length/\(id<(σs k).length->(σs (k+1))[id]?=(σs k)[id]?)
theorem oO.loose(hr:p8 ops ms)(ht:oO P call fl ops ms k0 frs σs ps ft z)(hf:HQ ops ms ft z σs){i id:Nat}{oi:Oper}(hi:ops[i]?=some oi)(hl:gX oi.op=true)(hid:ft i=some id)
  {k:Nat} {o:Oper} (ho:ops[k]?=some o) (hk:eH o.op=true->Kz.loose ms i k=true) (hlt:id<(σs k).length):(σs (k+1))[id]?=(σs k)[id]?/\(σs k).length<=(σs (k+1)).length:=by
 cases hw:eH o.op with
 |false=>rw[ht.still hr ho hw];exact⟨rfl,yAk _⟩
 |true=>
  have hloose:=hk hw
  cases hwt:Region.wanted o (bI ops (frs k))with
  |false=>rw[((ht k o ho).skip hwt).2];exact⟨rfl,yAk _⟩
  |true=>
   obtain⟨hrun,hfoot⟩:=(ht k o ho).run hwt
   simp only[eH,Bool.or_eq_true]at hw
   rcases hw with hst|hmv
   ·obtain⟨_,_,hA,hB,hM⟩:=HI (P:=P) (fr:=frs k) (.inr (.inr hst))
    unfold nS at hrun
    simp only[hA,hB,hM,yAx,if_false,Bool.false_and]at hrun
    obtain⟨id',o',h1,h2⟩:=aGl hst hrun
    have hne:id≠id':=hf.1 k i o oi ho hi hst hl hloose id id' hid (hfoot.trans h1)
    rw[h2]
    exact⟨yAd (Ne.symm hne),by simp⟩
   ·obtain⟨hA,hB,_,_⟩:=aGj hmv
    cases hfree:z k with
    |true=>
     obtain⟨q1,q2⟩:=hf.2 k i o oi id ho hi hmv hl hloose hfree hid
     exact⟨q2 hlt,q1⟩
    |false=>
    rw[hfree]at hrun
    unfold nS at hrun
    simp only[hA,hB,hmv,yAx,if_false,Bool.not_false,Bool.and_self,if_true]at hrun
    split at hrun
    ·rename_i p σ1 hst
     simp only[yAb,yAc]at hrun
     rw[<-hrun.2]
     exact⟨by rw[yAg hlt],by simp⟩
    ·simp at hrun
theorem oO.QF(hr:p8 ops ms)(ht:oO P call fl ops ms k0 frs σs ps ft z)(hf:HQ ops ms ft z σs){i id:Nat}{oi:Oper}(hi:ops[i]?=some oi)(hl:gX oi.op=true)(hid:ft i=some id){m:Nat} :
  ∀(d:Nat),m+d<=ops.size->(∀k o,m<=k->k<m+d->ops[k]?=some o->eH o.op=true->Kz.loose ms i k=true)->id<(σs m).length->(σs (m+d))[id]?=(σs m)[id]?/\(σs m).length<=(σs (m+d)).length
 |0,_,_,_=>⟨rfl,yAk _⟩
 |d+1,hn,h,hlt=>by
  obtain⟨h1,h2⟩:=ht.QF hr hf hi hl hid d (by omega) (fun k o a b=>h k o a (by omega)) hlt
  have ho:ops[m+d]?=some ops[m+d]:=Array.getElem?_eq_getElem (by omega)
  obtain⟨h3,h4⟩:=ht.loose hr hf hi hl hid ho (fun hw=>h _ _ (by omega) (by omega) ho hw) (by omega)
  exact⟨h3.trans h1,Nat.le_trans h2 h4⟩
theorem oO.xJ(hr:p8 ops ms)(ht:oO P call fl ops ms k0 frs σs ps ft z):∀(i:Nat),i<=ops.size->oQ ops ps (frs 0) (· < i) (frs i)
 |0,_=>.start fun j=>Nat.not_lt_zero j
 |i+1,h=>by
  have ho:ops[i]?=some ops[i]:=Array.getElem?_eq_getElem (by omega)
  have ih:=ht.xJ hr i (by omega)
  rw[(ht i _ ho).put]
  exact(ih.put hr ho).congr fun j=>by omega
theorem aF6(hr:p8 ops ms)(ht:oO P call fl ops ms k0 frs σs ps ft z){S:Nat->Prop}{fr:List PD}(hS:L2 ops S)(hsl:oQ ops ps (frs 0) S fr){i:Nat}{o:Oper}(ho:ops[i]?=some o)(hni:¬S i)
  (hready:∀e∈o.after,Region.binds .any e=true->S e.on) {x:Nat} (hx:x∈o.looksAt ops):fr[x]?=(frs i)[x]?:=by
 refine hsl.agree hr (ht.xJ hr i (Nat.le_of_lt (oP ho))) fun j oj hoj hd=>?_
 rcases Nat.lt_trichotomy j i with hlt|rfl|hgt
 ·obtain⟨e,he,hb,heq⟩:=(hr.looks i o j oj x ho hoj (by omega) hd hx).1 hlt
  exact⟨fun _=>hlt,fun _=>heq▸hready e he hb⟩
 ·exact⟨fun h=>absurd h hni,fun h=>absurd h (Nat.lt_irrefl _)⟩
 ·obtain⟨e,he,hb,heq⟩:=(hr.looks i o j oj x ho hoj (by omega) hd hx).2 hgt
  exact⟨fun h=>absurd (heq▸hS j oj h hoj e he hb) hni,fun h=>absurd h (by omega)⟩
theorem aF7{fr fr':List PD}{o:Oper}(h:∀x∈o.looksAt ops,fr[x]?=fr'[x]?):∀x∈o.op.operands,bB fr x=bB fr' x:=by
 intro x hx
 cases x with
 |tmp t=>
  have:t∈o.looksAt ops:=List.mem_append_left _ (List.mem_filterMap.2 ⟨.tmp t,by simpa using hx,rfl⟩)
  simp only[bB,yBa,h t this]
 |_=>rfl
theorem aF8{fr fr':List PD}{o:Oper}(h:∀x∈o.looksAt ops,fr[x]?=fr'[x]?):Region.wanted o (bI ops fr)=Region.wanted o (bI ops fr'):=by
 unfold Region.wanted
 cases hg:o.guard with
 |none=>rfl
 |some gb=>
  obtain⟨g,b⟩:=gb
  simp only
  have:bI ops fr g=bI ops fr' g:=by
   unfold bI
   cases hd:(ops[g]?).bind (·.dst)with
   |none=>rfl
   |some d=>
    have hm:d∈o.looksAt ops:=List.mem_append_right _ (by rw[hg];simp[hd])
    simp only[h d hm]
  rw[this]
structure Inv (P:Program) (fl:Nat) (ops:Array Oper) (c0:Cx) (jS:List PD) (σs:Nat->List aB) (ps:Nat->PD) (df:List Deferred) (listed:Array Bool) (a:Act) (c:Cx) (fr:List PD) (b:Nat):Prop where
 size:listed.size=ops.size
 closed:L2 ops (Lt listed)
 sr:Sr c
 nx:Nx fl c0 c
 σ:c.σ=σs b
 bN:b<=ops.size
 front:∀(j:Nat) (o:Oper),ops[j]?=some o->eH o.op=true->(Lt listed j↔j<b)
 BO:∀(i:Nat) (o:Oper) (t:TypeId),ops[i]?=some o->o.op=.alloc t->¬Lt listed i->¬c.D (c0.σ.length+gI ops.toList i)/\∃z,eE P t=some z/\z.cells.all PD.plain=true/\c.σ[c0.σ.length+gI ops.toList i]?=some (.box (boxed t z))
 xJ:oQ ops ps jS (Lt listed) fr
 fr:FR c a fr
 df:a.defers=df
theorem L3{listed:Array Bool}{i j:Nat}(hi:i<listed.size):Lt (listed.setIfInBounds i true) j↔Lt listed j\/j=i:=by
 unfold Lt
 by_cases e:i=j
 ·subst e;simp[hi]
 ·rw[Array.getElem?_setIfInBounds_ne e]
  exact⟨.inl,fun h=>h.elim id (fun h=>absurd h.symm e)⟩
theorem Inv.step{c0:Cx}{jS:List PD}{df:List Deferred}{listed:Array Bool}{a:Act}{c:Cx}{fr:List PD}{b:Nat}(hr:p8 ops ms)(hi:Inv P fl ops c0 jS σs ps df listed a c fr b){i b':Nat}{o:Oper}(ho:ops[i]?=some o)
  (hready:∀e∈o.after,Region.binds .any e=true->Lt listed e.on) {c':Cx} {v:Value} (hs':Sr c') (nx':Nx fl c0 c') (kJ:c'.σ=σs b') (hb':b'<=ops.size)
  (hfront:∀(j:Nat) (o:Oper),ops[j]?=some o->eH o.op=true->((Lt listed j\/j=i)↔j<b'))
  (hholes:∀(j:Nat) (o:Oper) (t:TypeId),ops[j]?=some o->o.op=.alloc t->¬Lt listed j->j≠i->¬c'.D (c0.σ.length+gI ops.toList j)/\∃z,eE P t=some z/\z.cells.all PD.plain=true/\c'.σ[c0.σ.length+gI ops.toList j]?=some (.box (boxed t z)))
  (hf':FR c' a fr) (hv:VR c' v (ps i)):Inv P fl ops c0 jS σs ps df (listed.setIfInBounds i true) (a.put o.dst v) c' (bE fr o.dst (ps i)) b':=by
 have hlt:i<listed.size:=by rw[hi.size];exact oP ho
 refine⟨by simpa using hi.size,?_,hs',nx',kJ,hb',?_,?_,?_,hf'.put hv _,?_⟩
 ·intro j oj hj hoj e he hb
  rw[L3 hlt]at hj ⊢
  rcases hj with hj|rfl
  ·exact .inl (hi.closed j oj hj hoj e he hb)
  ·rw[ho]at hoj;simp only[yAb]at hoj;subst hoj
   exact .inl (hready e he hb)
 ·intro j oj hoj hw
  rw[L3 hlt]
  exact hfront j oj hoj hw
 ·intro j oj t hoj ht hn
  rw[L3 hlt]at hn
  exact hholes j oj t hoj ht (fun h=>hn (.inl h)) (fun h=>hn (.inr h))
 ·exact(hi.xJ.put hr ho).congr fun j=>(L3 hlt).symm
 ·rw[<-hi.df];cases o.dst<;>rfl
end
end
section
open Go.RowKit
theorem Y9{P:Program}{σ σ':List aB}{t:TypeId}{a p:PD}(h:o4 P σ t a=some p)(he:∀id,nU a=some id->σ'[id]?=σ[id]?):o4 P σ' t a=some p:=by
 unfold o4 at h ⊢
 cases a<;>simp only at h ⊢<;>first|exact h|(simp at h;done)|skip
 ·rename_i id off
  rw[he id rfl];exact h
 ·rename_i id ver off
  rw[he id rfl];exact h
theorem ZA{P:Program}{σ:List aB}{t:TypeId}{a:PD}{id:Nat}{p:PD}(h:o4 P σ t a=some p)(ha:nU a=some id):id<σ.length:=by
 unfold o4 at h
 cases a<;>simp only[nU,reduceCtorEq,yAb]at ha
 ·subst ha
  simp only at h
  split at h
  ·rename_i q hq;exact(yA.1 hq).1
  ·simp at h
 ·cases h
 ·subst ha
  simp only at h
  split at h
  ·rename_i q hq;exact(yA.1 hq).1
  ·simp at h
theorem VR.aF2{c:Cx}{v:Value}{a:PD}{id:Nat}(h:VR c v a)(ha:nU a=some id):c.D id:=by
 cases a<;>simp only[nU,reduceCtorEq,yAb]at ha
 ·subst ha
  obtain⟨_,_,hd,_⟩:=h.rT
  exact hd
 ·subst ha
  obtain⟨_,_,_,hd,_⟩:=h.yW
  exact hd
 ·subst ha
  obtain⟨_,_,hd⟩:=h.EJ
  exact hd.1
theorem aF3{σ σ':List aB}{a:PD}{xs:List PD}(h:xI σ a=some xs)(he:∀id,nU a=some id->σ'[id]?=σ[id]?):xI σ' a=some xs:=by
 unfold xI at h ⊢
 cases a<;>simp only at h ⊢<;>first|exact h|(simp at h;done)|skip
 rename_i id off n size
 rw[he id rfl];exact h
theorem ZB{σ:List aB}{a:PD}{id:Nat}{xs:List PD}(h:xI σ a=some xs)(ha:nU a=some id):id<σ.length:=by
 unfold xI at h
 cases a<;>simp only[nU,reduceCtorEq,yAb]at ha
 ·cases h
 ·subst ha
  simp only at h
  split at h
  ·split at h
   ·rename_i q hq;exact(yA.1 hq).1
   ·simp at h
  ·simp at h
 ·cases h
theorem QB{P:Program}{σ:List aB}{s d:TypeId}{a p:PD}(h:yX P σ s d a=some p):∃xs,xI σ a=some xs:=by
 unfold yX at h
 cases hx:xI σ a with
 |none=>rw[hx]at h;cases h
 |some xs=>exact⟨xs,rfl⟩
theorem ZC{P:Program}{σ σ':List aB}{s d:TypeId}{a p:PD}(h:yX P σ s d a=some p)(he:∀id,nU a=some id->σ'[id]?=σ[id]?):yX P σ' s d a=some p:=by
 obtain⟨xs,hx⟩:=QB h
 unfold yX at h ⊢
 rw[aF3 hx he]
 rw[hx]at h
 exact h
section
variable{F:Fence}{P:Program}{call:dD}{fl n:Nat}{Q:Exit->Act->World->Prop}{ops:Array Oper}{frs:Nat->List PD}{σs:Nat->List aB}{ps:Nat->PD}{ft:Nat->Option Nat}{z:Nat->Bool}
 {c0:Cx} {df:List Deferred}
theorem aF4(hF:Open F P)(hc:Ok F P call)(hr:p8 ops (cN ops.toList []))(ht:oO P call fl ops (cN ops.toList []) c0.σ.length frs σs ps ft z)(hfeet:HQ ops (cN ops.toList []) ft z σs)
  (hs0:Sr c0) (qU:Xw fl c0) {listed:Array Bool} {a:Act} {c:Cx} {fr:List PD} {b:Nat} (hi:Inv P fl ops c0 (frs 0) σs ps df listed a c fr b) {i:Nat} (hmem:i∈Region.ready .any ops listed) {K:Act->World->Prop}
  (hK:∀a' c' fr' b',Inv P fl ops c0 (frs 0) σs ps df (listed.setIfInBounds i true) a' c' fr' b'->K a' c'.w):wpOpIn F n P ops Q i K a c.w:=by
 obtain⟨hun,o,ho,aF5⟩:=mem_ready.1 hmem
 have hlt:i<ops.size:=oP ho
 have hni:¬Lt listed i:=by
  intro h
  unfold Lt at h
  rw[Array.getD_eq_getD_getElem?,h]at hun
  cases hun
 have hready:∀e∈o.after,Region.binds .any e=true->Lt listed e.on:=fun e he hb=>by
  have:=aF5 e he hb
  rw[Array.getD_eq_getD_getElem?]at this
  unfold Lt
  cases hx:listed[e.on]? with
  |none=>rw[hx]at this;cases this
  |some t=>rw[hx]at this;simp at this;rw[this]
 have agree:=fun x hx=>aF6 hr ht hi.closed hi.xJ ho hni hready (x:=x) hx
 have ev:=aF7 agree
 have hlen:fr.length=(frs i).length:=hi.xJ.len.trans (ht.xJ hr i (Nat.le_of_lt hlt)).len.symm
 have hXc:Xw fl c:=qU.next hs0 hi.nx
 have hXm:Xw (max fl c.σ.length) c:=fun id g hd hle _ _ _=>absurd (hi.sr.bF id hd) (by omega)
 have frontN:eH o.op=false->∀(j:Nat) (oj:Oper),ops[j]?=some oj->eH oj.op=true->((Lt listed j\/j=i)↔j<b):=fun hw j oj hoj hwj=>by
  have hne:j≠i:=by rintro rfl;rw[ho]at hoj;simp only[yAb]at hoj;subst hoj;rw[hw]at hwj;cases hwj
  rw[<-hi.front j oj hoj hwj]
  simp[hne]
 have wb:eH o.op=true->b<=i:=fun hw=>by
  rcases Nat.lt_or_ge i b with h|h
  ·exact absurd ((hi.front i o ho hw).2 h) hni
  ·exact h
 have wlow:eH o.op=true->∀(j:Nat) (oj:Oper),ops[j]?=some oj->eH oj.op=true->j<i->Lt listed j:=fun hw j oj hoj hwj hji=>
  ZD hr.down hi.closed ho hready (hr.ord i o j oj ho hoj hw hwj hji)
 have frontW:eH o.op=true->∀(j:Nat) (oj:Oper),ops[j]?=some oj->eH oj.op=true->((Lt listed j\/j=i)↔j<i+1):=fun hw j oj hoj hwj=>by
  constructor
  ·rintro(h|rfl)
   ·have:=(hi.front j oj hoj hwj).1 h
    have:=wb hw
    omega
   ·omega
  ·intro h
   rcases Nat.lt_or_ge j i with h' | h'
   ·exact .inl (wlow hw j oj hoj hwj h')
   ·exact .inr (by omega)
 have QC:eH o.op=true->c.σ=σs i:=fun hw=>by
  have hle:=wb hw
  rw[hi.σ]
  have:=ht.QD hr (i:=b) (i-b) (by omega) fun j oj h1 h2 hoj=>by
   cases hwj:eH oj.op with
   |false=>rfl
   |true=>exact absurd ((hi.front j oj hoj hwj).1 (wlow hw j oj hoj hwj (by omega))) (by omega)
  rw[show b+(i-b)=i by omega]at this
  exact this.symm
 have BO:∀ {dP:Nat} {c':Cx},Nx dP c c'->∀(j:Nat) (oj:Oper) (t:TypeId),ops[j]?=some oj->oj.op=.alloc t->¬Lt listed j->j≠i ->
   ¬c'.D (c0.σ.length+gI ops.toList j)/\∃z,eE P t=some z/\z.cells.all PD.plain=true/\c'.σ[c0.σ.length+gI ops.toList j]?=some (.box (boxed t z)):=fun nx j oj t hoj hot hnl _=>by
  obtain⟨hnd,z,h1,h2,h3⟩:=hi.BO j oj t hoj hot hnl
  have hl:=(yA.1 h3).1
  exact⟨fun hd=>(nx.new _ hd).elim hnd (fun h=>by omega),z,h1,h2,(nx.hole _ hl hnd).trans h3⟩
 unfold wpOpIn
 simp only[ho]
 rw[ZE hi.fr,aF8 agree]
 cases hw:Region.wanted o (bI ops (frs i))with
 |false=>
  obtain⟨hp,kJ⟩:=(ht i o ho).skip hw
  simp only[yAx,if_false]
  refine⟨fun f _=>hF.fn f,?_⟩
  cases hW:eH o.op with
  |false=>exact hK _ c _ b (hi.step hr ho hready hi.sr hi.nx hi.σ hi.bN (frontN hW) (BO (.refl 0 c)) hi.fr (by rw[hp];exact VR.undef c))
  |true=>exact hK _ c _ (i+1) (hi.step hr ho hready hi.sr hi.nx ((QC hW).trans kJ.symm) hlt (frontW hW) (BO (.refl 0 c)) hi.fr (by rw[hp];exact VR.undef c))
 |true=>
  obtain⟨hrun,hfoot⟩:=(ht i o ho).run hw
  simp only[if_true]
  have gen:∀(dP b':Nat) (σ1:List aB),fl<=dP->Xw dP c->cP P call dP fr c.σ o.op=some (ps i,σ1)->(∀c',Nx dP c c'->c'.σ=σ1->c'.σ=σs b')->b'<=ops.size ->
    (∀(j:Nat) (oj:Oper),ops[j]?=some oj->eH oj.op=true->((Lt listed j\/j=i)↔j<b'))->o.wpIn F n P a c.w K Q:=by
   intro dP b' σ1 hle HR hst aF9 hb' hfront
   refine ZF hF hc hi.sr HR hi.fr hst fun v w' hl=>?_
   obtain⟨c',rfl,e,hs',nx,hv,_⟩:=hl
   exact hK _ c' _ b' (hi.step hr ho hready hs' (hi.nx.trans (nx.weaken hle)) (aF9 c' nx e) hb' hfront (BO nx) (hi.fr.mono nx) hv)
  unfold nS at hrun
  by_cases hA:jR o.op=true
  ·obtain⟨hpc,_,hW,_⟩:=YW (fr:=fr) hA
   rw[if_pos hA]at hrun
   split at hrun
   ·rename_i p hp
    simp only[yAb,yAc]at hrun
    obtain⟨rfl,_⟩:=hrun
    refine gen fl b c.σ (yAk _) hXc ?_ (fun c' _ e=>e.trans hi.σ) hi.bN (frontN hW)
    unfold cP pop
    rw[hpc,ZG _ ev,hp]
   ·simp at hrun
  ·simp only[Bool.not_eq_true]at hA
   rw[hA]at hrun
   simp only[yAx,if_false]at hrun
   by_cases hB:dM o.op=true
   ·obtain⟨_,hW,_,t,hop⟩:=aGa hB
    rw[if_pos hB]at hrun
    simp only[yAb,yAc]at hrun
    obtain⟨hp,_⟩:=hrun
    obtain⟨hnd,z,hz,hpl,hbox⟩:=hi.BO i o t ho hop hni
    obtain⟨zv,inf,hinf,hzv,hzr⟩:=yY (c:=c) hz
    have mF:=(QE (P:=P) (fl:=fl) hi.sr (LY hz hinf hzv t) (aQ.uL hzr.cells hpl) t (fun t' ds e=>LZ hzr e)).1
    have hrun:(execOp a.eval o).run P c.w=.ok (.value (.pointer (some ⟨c.w.heap.size,0,none⟩))) (c.w.alloc (.cells zv.cells t)):=by
     obtain⟨dst,op,ty,pos,after,guard⟩:=o
     simp only at hop;subst hop
     simp[execOp,Instr.alloc,zeroValue,typeInfo,hinf,hzv,mF]
    refine⟨fun f _=>hF.fn f,?_⟩
    rw[Oper.semAt_eq _ _ _ (by rw[hop];intro d e;cases e),hrun]
    have hg:c.w.grownBy (c.w.alloc (.cells zv.cells t)) none:=wC _ _
    have gH:∀b',aV (.pointer (some ⟨c.w.heap.size,0,none⟩))=some b'->c.w.heap.size<=b':=fun b' hb=>by simp[aV]at hb;omega
    have hnv:Nv c (c.mU (c.w.alloc (.cells zv.cells t)) (c0.σ.length+gI ops.toList i) (.pointer (some ⟨c.w.heap.size,0,none⟩))):=Nv.mU hnd hbox hg gH
    refine hK _ (c.mU (c.w.alloc (.cells zv.cells t)) (c0.σ.length+gI ops.toList i) (.pointer (some ⟨c.w.heap.size,0,none⟩))) _ b
     (hi.step hr ho hready (hi.sr.mU hnd hbox hg (yAk _) (heap_alloc_new _ _) (LY hz hinf hzv t) ⟨aQ.uL hzr.cells hpl,fun t' ds e=>LZ hzr e⟩) (hi.nx.mU hnd hbox hg gH (by omega)) hi.σ hi.bN (frontN hW) ?_ ⟨aQ.mV hnv hi.fr.1,(hi.sr.mU hnd hbox hg (yAk _) (heap_alloc_new _ _) (LY hz hinf hzv t) ⟨aQ.uL hzr.cells hpl,fun t' ds e=>LZ hzr e⟩).jZ⟩ ?_)
    ·intro j oj t' hoj hot hnl hne
     obtain⟨aGb,z',h1,h2,h3⟩:=hi.BO j oj t' hoj hot hnl
     refine⟨fun hd=>?_,z',h1,h2,h3⟩
     rcases hd with hd|hd
     ·exact aGb hd
     ·exact aGc (l:=ops.toList) (by simpa using hoj) (by simpa using ho) (by rw[hot];rfl) hB hne (by omega)
    ·rw[<-hp]
     exact .ptr _ _ _ (.inr rfl) ⟨_,hbox⟩ yZ
   ·simp only[Bool.not_eq_true]at hB
    rw[hB]at hrun
    simp only[yAx,if_false]at hrun
    by_cases hM:fM o.op=true
    ·have hW:eH o.op=true:=by simp[eH,hM]
     have kJ:=QC hW
     rw[hM]at hrun
     cases hfree:z i with
     |true=>
      rw[hfree]at hrun
      simp only[Bool.not_true,Bool.and_false,yAx,if_false,if_true]at hrun
      refine gen fl (i+1) (σs (i+1)) (yAk _) hXc ?_ (fun c' _ e=>e) hlt (frontW hW)
      rw[ZH hlen _ ev,kJ];exact hrun
     |false=>
      rw[hfree]at hrun
      simp only[Bool.not_false,Bool.and_self,if_true]at hrun
      split at hrun
      ·rename_i p σ1 hst
       simp only[yAb,yAc]at hrun
       obtain⟨rfl,aGd⟩:=hrun
       refine gen (max fl c.σ.length) (i+1) σ1 (by omega) hXm ?_ (fun c' nx e=>?_) hlt (frontW hW)
       ·rw[ZH hlen _ ev,kJ];exact hst
       ·rw[<-aGd,<-e,<-kJ]
        refine List.ext_getElem? fun id=>?_
        rcases Nat.lt_or_ge id c.σ.length with h|h
        ·rw[yAg h]
         exact nx.ro id (by omega) h
        ·rw[List.getElem?_append_right h,List.getElem?_drop]
         congr 1;omega
      ·simp at hrun
    ·simp only[Bool.not_eq_true]at hM
     rw[hM]at hrun
     simp only[Bool.false_and,yAx,if_false]at hrun
     have hsh:=hr.shape i o ho
     simp only[hA,hB,eH,hM,Bool.false_or,Bool.or_false,Bool.or_eq_true]at hsh
     by_cases hst:lE o.op=true
     ·have hW:eH o.op=true:=by simp[eH,hst]
      obtain⟨gH,EK,_⟩:=HI (P:=P) (fr:=fr) (.inr (.inr hst))
      refine gen fl (i+1) (σs (i+1)) (yAk _) hXc ?_ (fun c' _ e=>e) hlt (frontW hW)
      unfold cP pop
      rw[EK,gH]
      simp only
      rw[L0 hlen _ ev,QC hW];exact hrun
     ·have hW:eH o.op=false:=by simp[eH,hM,hst]
      by_cases hL:gX o.op=true
      ·obtain⟨gH,EK,_⟩:=HI (P:=P) (fr:=fr) (.inl hL)
       refine gen fl b c.σ (yAk _) hXc ?_ (fun c' _ e=>e.trans hi.σ) hi.bN (frontN hW)
       unfold cP pop
       rw[EK,gH]
       simp only
       rw[L0 hlen _ ev]
       obtain⟨dst,op,ty,pos,after,guard⟩:=o
       have ZI:∀x ad,op.operands=#[x]->bB (frs i) x=some ad->(qV (frs i) op=nU ad)->(∀id,nU ad=some id->id<(σs i).length)->∀id,nU ad=some id->c.σ[id]?=(σs i)[id]?:=by
        intro x ad hopx had hfe hltA id hida
        have hfid:ft i=some id:=by rw[hfoot,hfe,hida]
        rcases Nat.lt_or_ge i b with hib|hbi
        ·have h1:=(ht.QF hr hfeet ho hL hfid (m:=i) (b-i) (by have:=hi.bN;omega) (fun k ok h1 h2 hok hwk=>by
          have hk:Lt listed k:=(hi.front k ok hok hwk).2 (by omega)
          unfold loose
          simp only[yAr,Bool.not_eq_true',]
          refine⟨?_,?_⟩
          ·cases hx:((cN ops.toList []).getD i 0).testBit k with
           |false=>rfl
           |true=>exact absurd (ZJ hr.down i k hx) (by omega)
          ·cases hx:((cN ops.toList []).getD k 0).testBit i with
           |false=>rfl
           |true=>exact absurd (ZK hr.down hi.closed k i hk hx) hni) (hltA id hida)).1
         rw[show i+(b-i)=b by omega]at h1
         rw[hi.σ];exact h1
        ·have hd:id<(σs b).length:=by
          have hev:bB fr x=some ad:=by
           rw[ev x (by rw[hopx];simp)];exact had
          have hd:=(dW hi.fr hev).aF2 hida
          rw[<-hi.σ];exact hi.sr.bF id hd
         have h1:=(ht.QF hr hfeet ho hL hfid (m:=b) (i-b) (by omega) (fun k ok h1 h2 hok hwk=>by
          have hk:¬Lt listed k:=fun hk=>absurd ((hi.front k ok hok hwk).1 hk) (by omega)
          unfold loose
          simp only[yAr,Bool.not_eq_true',]
          refine⟨?_,?_⟩
          ·cases hx:((cN ops.toList []).getD i 0).testBit k with
           |false=>rfl
           |true=>exact absurd (ZD hr.down hi.closed ho hready hx) hk
          ·cases hx:((cN ops.toList []).getD k 0).testBit i with
           |false=>rfl
           |true=>exact absurd (ZJ hr.down k i hx) (by omega)) hd).1
         rw[show b+(i-b)=i by omega]at h1
         rw[hi.σ];exact h1.symm
       by_cases hcv:∃s d x,op=.convert s d x
       ·obtain⟨s,d,x,rfl⟩:=hcv
        simp only[dL]at hrun ⊢
        split at hrun
        ·rename_i htc
         rw[if_pos htc]
         split at hrun
         ·rename_i ad had
          split at hrun
          ·simp only[yAb,yAc]at hrun ⊢
           exact⟨hrun.1,trivial⟩
          ·split at hrun
           ·rename_i p hp
            obtain⟨xs,hxs⟩:=QB hp
            rw[ZC hp (ZI x ad rfl had (by simp only[qV,had]) (fun id=>ZB hxs))]
            simp only[yAb,yAc]at hrun ⊢
            exact⟨hrun.1,trivial⟩
           ·cases hrun
         ·cases hrun
        ·cases hrun
       obtain⟨t,x,rfl⟩:∃t x,op=.load t x:=by cases op<;>simp[gX]at hL hcv ⊢
       simp only[dL]at hrun ⊢
       split at hrun
       ·rename_i ad had
        split at hrun
        ·rename_i p hp
         simp only[yAb,yAc]at hrun
         obtain⟨rfl,_⟩:=hrun
         have hkeep:∀id,nU ad=some id->c.σ[id]?=(σs i)[id]?:=ZI x ad rfl had (by simp only[qV,had]) (fun id=>ZA hp)
         rw[Y9 hp hkeep]
        ·simp at hrun
       ·simp at hrun
      ·have hS:qS o.op=true:=by simpa [hL,hst]using hsh
       obtain⟨gH,EK,_⟩:=HI (P:=P) (fr:=fr) (.inr (.inl hS))
       refine gen fl b c.σ (yAk _) hXc ?_ (fun c' _ e=>e.trans hi.σ) hi.bN (frontN hW)
       unfold cP pop
       rw[EK,gH]
       simp only
       rw[L0 hlen _ ev]
       obtain⟨dst,op,ty,pos,after,guard⟩:=o
       obtain⟨t,ln,parts,rfl⟩:∃t ln parts,op=.buildSlice t ln parts:=by cases op<;>simp[qS]at hS ⊢
       simp only[dL]at hrun ⊢
       split at hrun
       ·rename_i qs hqs
        split at hrun
        ·rename_i p hp
         simp only[yAb,yAc]at hrun
         obtain⟨rfl,_⟩:=hrun
         rfl
        ·simp at hrun
       ·simp at hrun
theorem aGe(hr:p8 ops (cN ops.toList []))(ht:oO P call fl ops (cN ops.toList []) c0.σ.length frs σs ps ft z){listed:Array Bool}{a:Act}{c:Cx}{fr:List PD}{b:Nat}(hi:Inv P fl ops c0 (frs 0) σs ps df listed a c fr b)
  (hnil:Region.ready .any ops listed=[]):c.σ=σs ops.size/\fr=frs ops.size:=by
 have hall:∀i,i<ops.size->Lt listed i:=by
  intro i
  induction i using Nat.strongRecOn with
  |_ i ih=>
   intro hlt
   have ho:ops[i]?=some ops[i]:=Array.getElem?_eq_getElem hlt
   have hls:i<listed.size:=by rw[hi.size];exact hlt
   cases hb:listed[i]with
   |true=>unfold Lt;rw[Array.getElem?_eq_getElem hls,hb]
   |false=>
    have:i∈Region.ready .any ops listed:=mem_ready.2 ⟨by rw[Array.getD_eq_getD_getElem?,Array.getElem?_eq_getElem hls,hb];rfl,_,ho,fun e he hbd=>by
     have hd:=hr.down i _ ho e he hbd
     have:=ih e.on hd (by omega)
     unfold Lt at this
     rw[Array.getD_eq_getD_getElem?,this];rfl⟩
    rw[hnil]at this;cases this
 constructor
 ·rw[hi.σ]
  have:=ht.QD hr (i:=b) (ops.size-b) (by have:=hi.bN;omega) fun j oj h1 h2 hoj=>by
   cases hwj:eH oj.op with
   |false=>rfl
   |true=>exact absurd ((hi.front j oj hoj hwj).1 (hall j (oP hoj))) (by omega)
  rw[show b+(ops.size-b)=ops.size by have:=hi.bN;omega]at this
  exact this.symm
 ·exact hi.xJ.same hr (ht.xJ hr ops.size (yAk _)) fun j o hoj=>⟨fun _=>oP hoj,fun h=>hall j h⟩
theorem aGf(hF:Open F P)(hc:Ok F P call)(hr:p8 ops (cN ops.toList []))(ht:oO P call fl ops (cN ops.toList []) c0.σ.length frs σs ps ft z)(hfeet:HQ ops (cN ops.toList []) ft z σs)
  (hs0:Sr c0) (qU:Xw fl c0) (hQ:∀c' a',c'.σ=σs ops.size->Sr c'->Nx fl c0 c'->FR c' a' (frs ops.size)->a'.defers=df->Q .normal a' c'.w) :
  ∀(fuel:Nat) (listed:Array Bool) (a:Act) (c:Cx) (fr:List PD) (b:Nat),Inv P fl ops c0 (frs 0) σs ps df listed a c fr b->listed.toList.countP (·==false)<=fuel->wpAnyIn F n P .any ops Q fuel listed a c.w:=by
 have done:∀(listed:Array Bool) (a:Act) (c:Cx) (fr:List PD) (b:Nat),Inv P fl ops c0 (frs 0) σs ps df listed a c fr b->Region.ready .any ops listed=[]->Q .normal a c.w:=by
  intro listed a c fr b hi hnil
  obtain⟨e1,e2⟩:=aGe hr ht hi hnil
  exact hQ c a e1 hi.sr hi.nx (e2▸hi.fr) hi.df
 intro fuel
 induction fuel with
 |zero=>
  intro listed a c fr b hi hn
  have h0:∀x∈listed.toList,¬(x==false)=true:=List.countP_eq_zero.1 (Nat.le_zero.1 hn)
  have hnil:Region.ready .any ops listed=[]:=by
   apply List.eq_nil_iff_forall_not_mem.2
   intro i hm
   obtain⟨hun,o,ho,_⟩:=mem_ready.1 hm
   have hls:i<listed.size:=by rw[hi.size];exact oP ho
   rw[Array.getD_eq_getD_getElem?,Array.getElem?_eq_getElem hls]at hun
   exact h0 _ (Array.mem_toList_iff.2 (Array.getElem_mem hls)) (by simpa using hun)
  exact⟨hnil,done listed a c fr b hi hnil⟩
 |succ fuel ih=>
  intro listed a c fr b hi hn
  refine⟨done listed a c fr b hi,fun i hm=>aF4 hF hc hr ht hfeet hs0 qU hi hm fun a' c' fr' b' hi'=>ih _ a' c' fr' b' hi' ?_⟩
  obtain⟨hun,o,ho,_⟩:=mem_ready.1 hm
  have hls:i<listed.size:=by rw[hi.size];exact oP ho
  have hli:i<listed.toList.length:=by simpa using hls
  rw[Array.getD_eq_getD_getElem?,Array.getElem?_eq_getElem hls]at hun
  simp only[Option.getD_some]at hun
  rw[Array.toList_setIfInBounds,List.countP_set hli]
  have hpos:0<listed.toList.countP (·==false):=List.countP_pos_iff.2 ⟨listed[i],Array.mem_toList_iff.2 (Array.getElem_mem hls),by simp[hun]⟩
  have e:listed.toList[i]=false:=by simpa using hun
  rw[e]
  simp only[beq_self_eq_true,if_true,show(true==false)=false from rfl,yAx,if_false]
  omega
theorem ZL(hF:Open F P)(hc:Ok F P call){a:Act}{fr fr':List PD}{σ' hst:List aB}(hs:Sr c0)(hX:Xw fl c0)(hf:FR c0 a fr)(hr:p8 ops (cN ops.toList []))(hho:oB P ops.toList=some hst)
  {frs:Nat->List PD} {σs:Nat->List aB} {ps:Nat->PD} {ft:Nat->Option Nat} {z:Nat->Bool} (e1:frs 0=fr) (e2:σs 0=c0.σ++hst) (e3:frs ops.size=fr') (e4:σs ops.size=σ')
  (ht:oO P call fl ops (cN ops.toList []) c0.σ.length frs σs ps ft z) (hfeet:HQ ops (cN ops.toList []) ft z σs)
  (hQ:∀c' a',c'.σ=σ'->Sr c'->Nx fl c0 c'->FR c' a' fr'->a'.defers=a.defers->Q .normal a' c'.w):wpAnyIn F n P .any ops Q ops.size (Array.replicate ops.size false) a c0.w:=by
 have hs':=hs.ahead hst
 refine aGf (df:=a.defers) hF hc hr ht hfeet hs hX (fun c' a' h1 h2 h3 h4 h5=>hQ c' a' (h1.trans e4) h2 h3 (e3▸h4) h5) ops.size _ a (c0.ahead hst) fr 0 ?_ ?_
 ·refine⟨by simp,?_,hs',Nx.ahead hs hst,e2.symm,yBf _,?_,?_,?_,FR.mono (Nx.ahead (fl:=0) hs hst) hf,rfl⟩
  ·intro i o hi
   unfold Lt at hi
   rw[Array.getElem?_replicate]at hi
   split at hi<;>simp at hi
  ·intro j o _ _
   unfold Lt
   rw[Array.getElem?_replicate]
   split<;>simp
  ·intro i o t ho hot _
   obtain⟨z,h1,h2,h3⟩:=QG hho i o t (by simpa using ho) hot
   refine⟨fun hd=>absurd (hs.bF _ hd) (by omega),z,h1,h2,?_⟩
   show(c0.σ++hst)[_]?=_
   rw[List.getElem?_append_right (by omega),show c0.σ.length+gI ops.toList i-c0.σ.length=gI ops.toList i by omega]
   exact h3
  ·rw[<-e1]
   refine .start fun j hj=>?_
   unfold Lt at hj
   rw[Array.getElem?_replicate]at hj
   split at hj<;>simp at hj
 ·exact Nat.le_trans List.countP_le_length (by simp)
theorem ZM{tr:List TE}{ft:Nat->Option Nat}(hfo:tI ops.toList (cN ops.toList []) tr=true)(hft:∀j,0<=j->j<ops.size->ft j=(tr[j-0]?).bind TE.kU) :
  ∀(k i:Nat) (ok oi:Oper),ops[k]?=some ok->ops[i]?=some oi->lE ok.op=true->gX oi.op=true->loose (cN ops.toList []) i k=true->∀a b,ft i=some a->ft k=some b->a≠b:=by
 intro k i ok oi EL hoi hsk hli hloose x y hx hy
 simp only[tI,yAn,List.mem_range]at hfo
 have h1:=hfo k (by simpa using oP EL)
 rw[L1 EL,hsk]at h1
 simp only[Bool.not_true,Bool.false_or,yAn,List.mem_range]at h1
 have h2:=h1 i (by simpa using oP hoi)
 rw[L1 hoi,hli,hloose]at h2
 have hxi:=hft i (yBf _) (oP hoi)
 have hyk:=hft k (yBf _) (oP EL)
 simp only[Nat.sub_zero]at hxi hyk
 rw[<-hxi,<-hyk,hx,hy]at h2
 simpa using h2
theorem aFX(hF:Open F P)(hc:Ok F P call){a:Act}{fr fr':List PD}{σ':List aB}(hs:Sr c0)(hX:Xw fl c0)(hf:FR c0 a fr)(h:oC P call fl ops fr c0.σ=some (fr',σ'))
  (hQ:∀c' a',c'.σ=σ'->Sr c'->Nx fl c0 c'->FR c' a' fr'->a'.defers=a.defers->Q .normal a' c'.w):wpAnyIn F n P .any ops Q ops.size (Array.replicate ops.size false) a c0.w:=by
 unfold oC at h
 split at h
 ·rename_i x h
  simp only[yAb]at h
  subst h
  rename_i h
  unfold tE at h
  simp only at h
  split at h
  ·rename_i hok
   have hr:=LQ hok
   split at h
   ·rename_i hst hho
    split at h
    ·rename_i tr aL σ1 hops
     split at h
     ·rename_i hfo
      simp only[yAb,yAc]at h
      obtain⟨rfl,rfl⟩:=h
      obtain⟨frs,σs,ps,ft,e1,e2,e3,e4,htr,hft⟩:=aGg (k0:=c0.σ.length) ops.toList 0 _ _ _ _ _ _ (by simp) (by simp[gI]) hops
      simp only[yAp,Array.length_toList]at e3 e4 hft
      have ht:oO P call fl ops (cN ops.toList []) c0.σ.length frs σs ps ft (fun i=>lD ops.toList (cN ops.toList []) i):=fun i o ho=>htr i o (yBf _) ho
      refine ZL hF hc hs hX hf hr hho e1 e2 e3 e4 ht ⟨ZM hfo hft,?_⟩ hQ
      intro k i ok oi id EL hoi hmk hli hlo hz _
      simp only[lD,yAn,List.mem_range]at hz
      have:=hz i (by simpa using oP hoi)
      rw[L1 hoi,hli,hlo]at this
      simp at this
     ·simp at h
    ·simp at h
   ·simp at h
  ·simp at h
 ·split at h
  ·rename_i hok
   have hr:=LQ hok
   split at h
   ·rename_i hst hho
    split at h
    ·rename_i tr aL σ1 hops
     split at h
     ·rename_i hfo
      obtain⟨hfo,hkp⟩:=hfo
      simp only[yAb,yAc]at h
      obtain⟨rfl,rfl⟩:=h
      obtain⟨frs,σs,ps,ft,e1,e2,e3,e4,htr,hft,ZN⟩:=aGh (k0:=c0.σ.length) (ms:=cN ops.toList []) ops.toList 0 _ _ _ _ _ _ (by simp) (by simp[gI]) hops
      simp only[yAp,Array.length_toList]at e3 e4 hft
      have ht:oO P call fl ops (cN ops.toList []) c0.σ.length frs σs ps ft (fun _=>true):=fun i o ho=>htr i o (yBf _) ho
      refine ZL hF hc hs hX hf hr hho e1 e2 e3 e4 ht ⟨ZM hfo hft,?_⟩ hQ
      intro k i ok oi id EL hoi hmk hli hlo _ hid
      have aGi:(tr[i]?).bind TE.kU=some id:=by
       have:=hft i (yBf _) (oP hoi)
       rw[Nat.sub_zero]at this
       rw[<-this,hid]
      have:=hkp k i id ok oi (by simpa using EL) (by simpa using hoi) hmk hli hlo aGi
      have h1:=ZN k (yBf _)
      have h2:=ZN (k+1) (yBf _)
      simp only[Nat.sub_zero]at h1 h2
      rw[h1,h2]
      exact this
     ·simp at h
    ·simp at h
   ·simp at h
  ·simp at h
end
end
section
open Go.RowKit
section
variable{F:Fence}{n:Nat}{P:Program}{Q:Exit->Act->World->Prop}{a:Act}{w:World}
def xH(F:Fence)(n:Nat)(P:Program)(c:Code)(Q:Exit->Act->World->Prop)(a:Act)(w:World):Prop:=
 ∀(b:Frame) (k:List Item) (cs:List Frame),b.roundOf=F.round->F.fn b.fn->F.room (cs.length+1+n) ->
  ∃e a' w',Q e a' w'/\ArrivesIn (Machine.fenced P F) P (lone (b.atR a (.code c::.inLoop c::k)) cs w) b k cs e a' w'
theorem xH.wpIn{c:Code}(h:xH F n P c Q a w):(Code.loop c).wpIn F n P Q a w:=fun b k cs hro hb hr=>
 let ⟨e,a',w',q,r⟩:=h b k cs hro hb hr;⟨e,a',w',q,.of_steps (.one (fenced_calm hb hr rfl) stepR_loop) r⟩
theorem xH.round{c:Code}(h:c.wpIn F n P (Exit.then (xH F n P c Q) Q) a w):xH F n P c Q a w:=by
 intro b k cs hro hb hr
 obtain⟨e,a₁,w₁,hq,harr⟩:=h b (.inLoop c::k) cs hro hb hr
 cases e with
 |normal=>
  obtain⟨e₂,a₂,w₂,hq₂,harr₂⟩:=hq b k cs hro hb hr
  exact⟨e₂,a₂,w₂,hq₂,.of_steps (StepsIn.trans harr (.one (fenced_calm hb hr rfl) stepR_inLoop)) harr₂⟩
 |exit id=>exact⟨_,a₁,w₁,hq,.pass (x:=.inLoop c) rfl (fun _ _=>.inl (by simp)) harr⟩
 |goto l=>exact⟨_,a₁,w₁,hq,.pass (x:=.inLoop c) rfl (fun _ _=>.inl (by simp)) harr⟩
 |ret=>exact⟨_,a₁,w₁,hq,.pass (x:=.inLoop c) rfl (fun _ _=>.inl (by simp)) harr⟩
 |panic ch=>exact⟨_,a₁,w₁,hq,.pass (x:=.inLoop c) rfl (fun _ _=>.inl (by simp)) harr⟩
 |outgrown=>exact⟨_,a₁,w₁,hq,.pass (x:=.inLoop c) rfl (fun _ _=>.inl (by simp)) harr⟩
def o9(F:Fence)(n:Nat)(P:Program)(c:Code)(Q:Exit->Act->World->Prop)(a:Act)(w:World):Prop:=
 match c with
 |.loop b=>xH F n P b Q a w
 |c=>c.wpIn F n P Q a w
theorem o9.wpIn{c:Code}(h:o9 F n P c Q a w):c.wpIn F n P Q a w:=by
 unfold o9 at h
 split at h
 ·exact xH.wpIn h
 ·exact h
end
def MR(c:Cx):List Deferred->List Nat->Prop
 | [],[]=>True
 |d::ds,m::ms=>(∃b,d.target=.collected b/\c.D m/\lU c.σ[m]?/\c.ρ m=.pointer (some ⟨b,0,none⟩))/\MR c ds ms
 |_,_=>False
theorem MR.mono{fl:Nat}{c c':Cx}(nx:Nx fl c c'):∀ {ds:List Deferred} {ms:List Nat},MR c ds ms->MR c' ds ms
 | [],[],_=>trivial
 |d::ds,m::ms,h=>by
  obtain⟨⟨b,h1,h2,h3,h4⟩,h5⟩:=h
  obtain⟨e,k⟩:=nx.mE m h2 h3
  exact⟨⟨b,h1,nx.bF m h2,k,e.trans h4⟩,MR.mono nx h5⟩
 | [],_::_,h=>h.elim
 |_::_,[],h=>h.elim
def yU(F:Fence)(c:Cx):Option Nat->Prop
 |none=>F.round=none
 |some id=>∃l,F.round=some l/\c.D id/\lU c.σ[id]?/\c.ρ id=.pointer (some ⟨l,0,none⟩)
theorem yU.mono{fl:Nat}{F:Fence}{c c':Cx}(nx:Nx fl c c'){rd:Option Nat}(h:yU F c rd):yU F c' rd:=by
 cases rd with
 |none=>exact h
 |some id=>
  obtain⟨l,h1,h2,h3,h4⟩:=h
  obtain⟨e,k⟩:=nx.mE id h2 h3
  exact⟨l,h1,nx.bF id h2,k,e.trans h4⟩
def P5(P:Program)(code:rS):Prop:=
 ∀ {F:Fence} {rd:Option Nat} {c:Code} {fl:Nat} {fr:List PD} {ms:List Nat} {cx:Cx} {r:PO} {a:Act},Open F P->code rd c fl fr ms cx.σ=some r->Sr cx->Xw fl cx->FR cx a fr->MR cx a.defers ms->yU F cx rd ->
   ∀(m:Nat) (Q:Exit->Act->World->Prop),(∀kT a',kT.σ=r.σ->Sr kT->Nx fl cx kT->FR kT a' r.fr->MR kT a'.defers r.ms->Q r.x.HJ a' kT.w)->o9 F m P c Q a cx.w
section
variable{P:Program}{c:Cx}{fl:Nat}
theorem aF1(hs:Sr c){a:Act}{fr:List PD}(hf:FR c a fr){rv:ResultVar}{p:PD}(h:yQ P fr c.σ rv=some p) :
  ∃v,((match rv with|.tmp t=>pure (a.tmps.getD t undef)|.cell x t=>do loadVar t (<-asAddr (a.tmps.getD x undef)):Sem Value)).run P c.w=.ok v c.w/\VR c v p:=by
 cases rv with
 |tmp t=>
  simp only[yQ,yAb]at h
  subst h
  exact⟨_,rfl,hf.tmp t⟩
 |cell x t=>
  simp only[yQ]at h
  split at h
  ·rename_i id off hid
   have hv:=hf.tmp x
   rw[hid]at hv
   obtain⟨v,r,q⟩:=Y7 (P:=P) hs h hv
   obtain⟨b,e,_⟩:=hv.rT
   refine⟨v,?_,q⟩
   rw[e]at r
   simp only[e,asAddr]
   simpa [Instr.loadAt,Instr.sureAddr]using r
  ·simp at h
theorem Y8(hs:Sr c){a:Act}{fr:List PD}(hf:FR c a fr){f:ResultVar->Sem Value}(hfn:∀(rv:ResultVar) (p:PD),yQ P fr c.σ rv=some p->∃v,(f rv).run P c.w=.ok v c.w/\VR c v p):∀ {l:List ResultVar} {qs:List PD},v7 P fr c.σ l=some qs ->
  ∃vs:List Value,(l.mapM f).run P c.w=.ok vs c.w/\aQ c vs qs
 | [],qs,h=>by
   simp only[v7,yAb]at h;subst h
   exact⟨[],by simp[List.mapM_nil],rfl,by simp⟩
 |rv::l,qs,h=>by
  simp only[v7]at h
  split at h
  ·rename_i p ps h1 h2
   simp only[yAb]at h;subst h
   obtain⟨v,r,hv⟩:=hfn rv p h1
   obtain⟨vs,rs,hvs⟩:=Y8 hs hf hfn h2
   refine⟨v::vs,by simp[List.mapM_cons,Sem.run_bind,r,rs,Result.andThen],by simpa using hvs.1,fun i u d hu hd=>?_⟩
   cases i with
   |zero=>simp at hu hd;subst hu hd;exact hv
   |succ i=>exact hvs.2 i u d (by simpa using hu) (by simpa using hd)
  ·simp at h
theorem aF0(hs:Sr c){a:Act}{fr:List PD}(hf:FR c a fr){fn:Func}{qs:List PD}(h:v7 P fr c.σ fn.results.toList=some qs):∃v,(results fn a.tmps).run P c.w=.ok v c.w/\VR c v (BI qs):=by
 obtain⟨vs,r,hv⟩:=Y8 hs hf (fun rv p=>aF1 hs hf) h
 unfold results
 rw[Array.mapM_eq_mapM_toList]
 rw[map_eq_pure_bind]
 simp only[Sem.run_bind]
 generalize hg:Sem.run P (List.mapM _ fn.results.toList) c.w=res
 have e:res=.ok vs c.w:=hg.symm.trans r
 subst e
 simp only[Result.andThen,Sem.run_pure]
 have hl:=hv.1
 by_cases h1:vs.length=1
 ·obtain⟨v,rfl⟩:∃v,vs=[v]:=by
   match vs,h1 with
   | [v],_=>exact⟨v,rfl⟩
  obtain⟨p,rfl⟩:∃p,qs=[p]:=by
   match qs,hl with
   | [p],_=>exact⟨p,rfl⟩
  exact⟨v,by simp,hv.2 0 v p rfl rfl⟩
 ·have e:BI qs=.aH qs:=by
   match qs,hl with
   | [],_=>rfl
   | [p],hl=>exact absurd hl h1
   |_::_::_,_=>rfl
  rw[e]
  refine⟨.tuple vs.toArray,?_,.aH vs qs hv.1 hv.2⟩
  rw[dif_neg (by simpa using h1)]
end
end
section
open Go.RowKit
section
variable{P:Program}{fl:Nat}
theorem Y1{b b':Nat}(h:Value.pointer (some ⟨b,0,none⟩)=Value.pointer (some ⟨b',0,none⟩)):b=b':=by simpa using h
theorem Y2{F:Fence}{n:Nat}{fn:Func}{tmps:Array Value}{R:Ending->World->Prop}:∀(ms:List Nat) (ds:List Deferred) (c:Cx) (σ':List aB),xE fl ms c.σ=some σ'->Sr c->MR c ds ms ->
  (∀c',c'.σ=σ'->Sr c'->Nx fl c c'->LeavesInM F n P fn tmps R [] .returning c'.w)->LeavesInM F n P fn tmps R ds .returning c.w
 | [],[],c,σ',h,hs,_,hR=>by
   simp only[xE,yAb]at h
   exact hR c h hs (.refl _ _)
 |m::ms,d::ds,c,σ',h,hs,hm,hR=>by
  obtain⟨⟨b,h1,h2,h3,h4⟩,h5⟩:=hm
  simp only[xE]at h
  split at h
  ·rename_i hfl
   split at h
   ·rename_i hmk
    obtain⟨b',e1,e2⟩:=hs.mark m h2 hmk
    have e:=Y1 (h4.symm.trans e1)
    subst e
    have nx:Nx fl c (c.put (c.w.putObj b (.deferred none)) m (c.ρ m) .none):=Nx.tL hs h2 hmk trivial trivial (by rw[h4];rfl) hfl e2 (by simp)
    have hs':Sr (c.put (c.w.putObj b (.deferred none)) m (c.ρ m) .none):=Sr.tL hs h2 hmk trivial trivial (by rw[h4];rfl) e2 (by simp) trivial
    refine⟨by simp,.inl ⟨b,c.w.putObj b (.deferred none),h1,run_takeDeferred e2,?_⟩⟩
    exact Y2 ms ds _ σ' h hs' (h5.mono nx) (fun c' q1 q2 q3=>hR c' q1 q2 (nx.trans q3))
   ·simp at h
  ·simp at h
 | [],_::_,_,_,_,_,hm,_=>hm.elim
 |_::_,[],_,_,_,_,hm,_=>hm.elim
theorem Leaves.of{c c':Cx}{p:PD}{v:Value}(hs:Sr c')(nx:Nx fl c c')(hv:VR c' v p):Leaves fl c p c'.σ v c'.w:=
 ⟨c',rfl,rfl,hs,nx,hv,fun id hd=>(nx.new id hd).imp (fun h=>h) (fun h=>⟨h,hs.bF id hd⟩)⟩
theorem Y3{c:Cx}:∀(ts:List Tmp) (vs:List Value) (ps:List PD) (a:List Value) (fr:List PD),aQ c vs ps->aQ c a fr->ts.length=vs.length->aQ c ((ts.zip vs).foldl (fun tmps x=>tmps.set x.1 x.2) a) (BH fr ts ps)
 | [],_,_,a,fr,_,h,_=>by simpa [BH]using h
 |t::ts,[],_,_,_,_,_,hl=>by simp at hl
 |t::ts,v::vs,[],_,_,hv,_,_=>by have:=hv.1;simp at this
 |t::ts,v::vs,p::ps,a,fr,hv,h,hl=>by
  simp only[List.zip_cons_cons,List.foldl_cons,BH]
  refine Y3 ts vs ps _ _ ⟨by simpa using hv.1,fun i u d hu hd=>hv.2 (i+1) u d (by simpa using hu) (by simpa using hd)⟩ ⟨by simpa using h.1,fun i u d hu hd=>?_⟩ (by simpa using hl)
  rw[List.getElem?_set]at hu hd
  by_cases e:t=i
  ·subst e
   simp only[if_true]at hu hd
   split at hu
   ·split at hd
    ·simp only[yAb]at hu hd;subst hu hd;exact hv.2 0 _ _ rfl rfl
    ·simp at hd
   ·simp at hu
  ·rw[if_neg e]at hu hd
   exact h.2 i u d hu hd
theorem Y4:∀(l:List (Tmp×Value)) (a:Array Value),(l.foldl (fun tmps x=>tmps.setIfInBounds x.1 x.2) a).toList=l.foldl (fun tmps x=>tmps.set x.1 x.2) a.toList
 | [],a=>rfl
 |x::l,a=>by simp only[List.foldl_cons];rw[Y4 l];simp
theorem BM{c:Cx}(hs:Sr c){id l:Nat}{st:EH}{fr:List PD}{ps:List Tmp}{asg bd:Code}(hd:c.D id)(ho:c.σ[id]?=some (.loop st fr ps asg bd))(hr:c.ρ id=.pointer (some ⟨l,0,none⟩)) :
  ∃r,c.w.heap[l]?=some (.loop r)/\r.params=ps.toArray/\r.assign=asg/\r.body=bd/\aQ c r.tmps.toList fr/\st.fits r:=by
 obtain⟨b,r,e1,e2,e3⟩:=hs.loop id st fr ps asg bd hd ho
 have e:=Y1 (hr.symm.trans e1)
 subst e
 exact⟨r,e2,e3⟩
theorem LR{c:Cx}(hs:Sr c){id l:Nat}{st st':EH}{fr:List PD}{ps:List Tmp}{asg bd:Code}{r r':Loop}(hd:c.D id)(ho:c.σ[id]?=some (.loop st fr ps asg bd))(hr:c.ρ id=.pointer (some ⟨l,0,none⟩))(hfl:fl<=id)
  (hh:c.w.heap[l]?=some (.loop r)) (h1:r'.params=ps.toArray) (h2:r'.assign=asg) (h3:r'.body=bd) (h4:aQ c r'.tmps.toList fr) (h5:st'.fits r') :
  ∃c',c'.w=c.w.putObj l (.loop r')/\c'.σ=c.σ.set id (.loop st' fr ps asg bd)/\Sr c'/\Nx fl c c':=
 ⟨c.put (c.w.putObj l (.loop r')) id (c.ρ id) (.loop st' fr ps asg bd),rfl,rfl,Sr.tL hs hd ho trivial trivial (by rw[hr];rfl) hh (by simp) ⟨hr,r',rfl,h1,h2,h3,h4,h5⟩,Nx.tL hs hd ho trivial trivial (by rw[hr];rfl) hfl hh (by simp)⟩
theorem P3{c:Cx}(hs:Sr c){id l:Nat}{st:EH}{fr:List PD}{ps:List Tmp}{asg bd:Code}{r r':Loop}(hd:c.D id)(ho:c.σ[id]?=some (.loop st fr ps asg bd))(hr:c.ρ id=.pointer (some ⟨l,0,none⟩))(hfl:fl<=id)
  (hh:c.w.heap[l]?=some (.loop r)):∃c',c'.w=c.w.putObj l (.loop r')/\c'.σ=c.σ.set id .none/\Sr c'/\Nx fl c c':=
 ⟨c.put (c.w.putObj l (.loop r')) id (c.ρ id) .none,rfl,rfl,Sr.tL hs hd ho trivial trivial (by rw[hr];rfl) hh (by simp) trivial,Nx.tL hs hd ho trivial trivial (by rw[hr];rfl) hfl hh (by simp)⟩
theorem aFY{code:rS}(h:P5 P code){F:Fence}(hF:Open F P){id l:Nat}{args:List PD}{c:Cx}{vs:List Value}{p:PD}{σ':List aB}(hc:LU code fl id args c.σ=some (p,σ'))(hs:Sr c)(hX:Xw fl c)
  (hv:aQ c vs args) (hd:c.D id) (hr:c.ρ id=.pointer (some ⟨l,0,none⟩)) :
  ∃g tmps asg bd,(Instr.yield l vs.toArray).run P c.w=.ok (.round l g tmps asg bd) c.w/\∀m,RoundIn F m P l g tmps asg bd c.w (BN fl c p σ'):=by
 unfold LU at hc
 split at hc
 ·rename_i hfl
  split at hc
  ·rename_i fr pp asg bd hlo
   split at hc
   ·rename_i hlen
    obtain⟨r,hh,hp,ha,hb,ht,hst⟩:=BM hs hd hlo hr
    have hvl:=hv.1
    refine⟨_,_,_,_,run_yield hh (by simp[hp,hvl,hlen]),fun m=>?_⟩
    have hFl:Open (F.inRound l) P:=⟨hF.fn,hF.depth,hF.name,hF.alive⟩
    refine roundIn_of_wpIn (hF.fn _) ?_
    split at hc
    ·rename_i aL ms1 σ1 hassign
     have hfr:aQ c ((r.params.zip vs.toArray).foldl (fun tmps x=>tmps.setIfInBounds x.1 x.2) r.tmps).toList (BH fr pp args):=by
      rw[<-Array.foldl_toList,Y4,hp]
      simp only[Array.toList_zip]
      exact Y3 pp vs args _ _ hv ht (by rw[hvl,hlen])
     have hno:lU c.σ[id]?:=by rw[hlo];trivial
     refine o9.wpIn ?_
     rw[ha]
     refine h (a:={ tmps:=_,defers:=[] }) hFl hassign hs hX ⟨hfr,hs.jZ⟩ trivial (⟨l,rfl,hd,hno,hr⟩:yU (F.inRound l) c (some id)) m _ fun c1 a1 e1 hs1 jT jP nT=>?_
     simp only at e1 jP nT
     simp only[PX.HJ,Exit.then]
     obtain⟨er,Y5⟩:=jT.mE id hd hno
     have tM:=jT.bF id hd
     have mF:=er.trans hr
     split at hc
     ·rename_i jS EE EF EG hlo1
      rw[<-e1]at hlo1
      obtain⟨r1,Y6,eQ,ha1,cY,P6,aFZ⟩:=BM hs1 tM hlo1 mF
      refine⟨_,run_beginRound Y6 aFZ.1,?_⟩
      obtain⟨c2,w2,e2,hs2,fS⟩:=LR (fl:=fl) hs1 (st':=.busy) (r':={ r1 with state:=.busy }) tM hlo1 mF hfl Y6 eQ ha1 cY P6 rfl
      have P2:lU c2.σ[id]?:=(fS.mE id tM Y5).2
      have qT:=(fS.mE id tM Y5).1.trans mF
      have o7:=fS.bF id tM
      rw[<-w2]
      split at hc
      ·rename_i x fr2 ms2 σ2 hbody
       rw[e1.symm,<-e2]at hbody
       have P1:=hX.next hs jT
       refine o9.wpIn ?_
       rw[hb]
       refine h (a:=a1) hFl hbody hs2 (P1.next hs1 fS) (FR.mono fS jP) (nT.mono fS) (⟨l,rfl,o7,P2,qT⟩:yU (F.inRound l) c2 (some id)) m _ fun c3 a3 e3 hs3 oN _ _=>?_
       simp only at e3
       have yV:=oN.bF id o7
       have wD:=(oN.mE id o7 P2).1.trans qT
       have P7:Nx fl c c3:=jT.trans (fS.trans oN)
       split at hc
       ·rename_i LV HN LW LX hlo3
        rw[<-e3]at hlo3
        obtain⟨r3,EI,tP,P8,P9,QA,HO⟩:=BM hs3 yV hlo3 wD
        cases x with
        |normal=>
         simp only[yAb,yAc]at hc
         obtain⟨rfl,rfl⟩:=hc
         obtain⟨c4,w4,e4,fT,HP⟩:=LR (fl:=fl) hs3 (st':=.ready) (r':={ r3 with state:=.ready,pending:=none }) yV hlo3 wD hfl EI tP P8 P9 QA ⟨rfl,rfl⟩
         refine⟨_,_,run_endRound none EI,?_⟩
         have:=Leaves.of (p:=.bool true) (v:=.bool true) fT (P7.trans HP) (.bool true)
         rw[w4,e4,e3]at this
         exact this
        |ret=>
         simp only[yAb,yAc]at hc
         obtain⟨rfl,rfl⟩:=hc
         obtain⟨c4,w4,e4,fT,HP⟩:=LR (fl:=fl) hs3 (st':=.done .ret) (r':={ r3 with state:=.done,pending:=some .ret }) yV hlo3 wD hfl EI tP P8 P9 QA ⟨rfl,rfl⟩
         refine⟨_,_,run_endRound (some .ret) EI,?_⟩
         have:=Leaves.of (p:=.bool false) (v:=.bool false) fT (P7.trans HP) (.bool false)
         rw[w4,e4,e3]at this
         exact this
        |exit k=>
         simp only[yAb,yAc]at hc
         obtain⟨rfl,rfl⟩:=hc
         obtain⟨c4,w4,e4,fT,HP⟩:=LR (fl:=fl) hs3 (st':=.done (.exit k)) (r':={ r3 with state:=.done,pending:=some (.exit k) }) yV hlo3 wD hfl EI tP P8 P9 QA ⟨rfl,rfl⟩
         refine⟨_,_,run_endRound (some (.exit k)) EI,?_⟩
         have:=Leaves.of (p:=.bool false) (v:=.bool false) fT (P7.trans HP) (.bool false)
         rw[w4,e4,e3]at this
         exact this
       ·simp at hc
      ·simp at hc
     ·simp at hc
    ·simp at hc
   ·simp at hc
  ·simp at hc
 ·simp at hc
def aE(P:Program)(E:aD):Prop:=
 ∀ {F:Fence} {fl:Nat} {f:FuncId} {g:Nat->List PD->List aB->Option (PD×List aB)} {args:List PD} {c:Cx} {vs:List Value} {p:PD} {σ':List aB},Open F P->E f=some g->g fl args c.σ=some (p,σ')->Sr c->Xw fl c->aQ c vs args ->
   (∃fn,P.funcs[f]?=some fn/\fn.body.isSome=true)/\∀m,CallsIn F m P f vs.toArray c.w (BN fl c p σ')
theorem YY{E:aD}{code:rS}(hE:aE P E)(h:P5 P code){F:Fence}(hF:Open F P):Ok F P (rP P E code) where
 round:=fun hc hs hX hv hd hr=>aFY h hF hc hs hX hv hd hr
 fn:=by
  intro fl f args c vs p σ' hc hs hX hv
  simp only[rP]at hc
  split at hc
  ·rename_i g hg
   exact hE hF hg hc hs hX hv
  ·unfold BL at hc
   split at hc
   ·rename_i fn hfn
    split at hc
    ·rename_i bd hbd
     refine⟨⟨fn,hfn,by simp[hbd]⟩,fun m=>?_⟩
     split at hc
     ·rename_i r hr
      have hF0:Open { F with round:=none } P:=⟨hF.fn,hF.depth,hF.name,hF.alive⟩
      have key:CallsIn { F with round:=none } m P f vs.toArray c.w (BN fl c p σ'):=by
       refine callsIn_of_wp_marks hfn hbd (hF.fn f) (o9.wpIn ?_)
       have hfr:aQ c (vs.toArray++Array.replicate (fn.ntmps-vs.toArray.size) undef).toList (args++List.replicate (fn.ntmps-args.length) (.aH [])):=by
        have e:(vs.toArray++Array.replicate (fn.ntmps-vs.toArray.size) undef).toList=vs++List.replicate (fn.ntmps-args.length) undef:=by simp[hv.1]
        rw[e]
        refine hv.append ⟨by simp,fun i v d h1 h2=>?_⟩
        rw[List.getElem?_replicate]at h1 h2
        split at h1
        ·simp only[yAb]at h1 h2;subst h1
         rw[if_pos ‹_›]at h2
         simp only[yAb]at h2;subst h2;exact VR.undef c
        ·simp at h1
       refine h (a:={ tmps:=_,defers:=[] }) hF0 hr hs hX ⟨hfr,hs.jZ⟩ trivial (rfl:yU { F with round:=none } c none) m _ fun c1 a1 e1 hs1 jT jP nT=>?_
       have leave:(∀k,r.x≠.exit k)->LeavesInM { F with round:=none } m P fn a1.tmps (BN fl c p σ') a1.defers .returning c1.w:=by
        intro hx
        unfold fR at hc
        have hc:(match xE fl r.ms r.σ with
          |some σ=>match v7 P r.fr σ fn.results.toList with
           |some ps=>some (BI ps,σ)
           |none=>none
          |none=>none)=some (p,σ'):=by
         split at hc
         ·rename_i k hk;exact absurd hk (hx k)
         ·exact hc
        split at hc
        ·rename_i σ1 hdm
         split at hc
         ·rename_i qs hqs
          simp only[yAb,yAc]at hc
          obtain⟨rfl,rfl⟩:=hc
          rw[<-e1]at hdm
          refine Y2 r.ms a1.defers c1 σ1 hdm hs1 nT fun c2 e2 hs2 fS=>?_
          rw[<-e2]at hqs
          obtain⟨v,rv,hvv⟩:=aF0 (P:=P) hs2 (FR.mono fS jP) hqs
          refine⟨v,rv,?_⟩
          have:=Leaves.of hs2 (jT.trans fS) hvv
          rw[e2]at this
          exact this
         ·simp at hc
        ·simp at hc
       cases hx:r.x with
       |normal=>exact leave (by rw[hx];simp)
       |ret=>exact leave (by rw[hx];simp)
       |exit k=>exfalso;unfold fR at hc;rw[hx]at hc;simp at hc
      exact⟨key.1,key.2⟩
     ·simp at hc
    ·simp at hc
   ·simp at hc
end
end
section
open Go.RowKit
section
variable{F:Fence}{P:Program}{call:dD}{fl:Nat}
theorem YX(hF:Open F P)(hc:Ok F P call){c1:Cx}{id l n:Nat}{a a':Act}{g:Operand}{gf:FuncId}{cap fr:List PD}{ms:List Nat}{q:PD}{σ2:List aB}{r:PO}{Q:Exit->Act->World->Prop}
  (hs1:Sr c1) (P1:Xw fl c1) (hd:c1.D id) (hρ:c1.ρ id=.pointer (some ⟨l,0,none⟩)) (hno:lU c1.σ[id]?) (hfl:fl<=id) (hg:VR c1 (a.eval g) (.func gf cap))
  (hcall:call fl (.inl gf) (.yield id::cap) c1.σ=some (q,σ2)) (hleave:HG id fr ms σ2=some r) (hf:FR c1 a' fr) (hm:MR c1 a'.defers ms)
  (hQ:∀kT oM,kT.σ=r.σ->Sr kT->Nx fl c1 kT->FR kT oM r.fr->MR kT oM.defers r.ms->Q r.x.HJ oM kT.w) :
  ∃(d:Deferred) (w₁':World) (f:FuncId) (args:Array Value) (w₂:World),(resolve a.eval (rangeCall g l) 0).run P c1.w=.ok d w₁'/\(∀f',Target.leads P w₁' d.target d.args=some f'->F.fn f') /\
   (invoke d.target d.args).run P w₁'=.ok (.enter f args) w₂/\(F.depth.isSome=true->1<=n)/\CallsIn F (n-1) P f args w₂ (rangePost F n P l Q a'):=by
 obtain⟨cs,e,hcs⟩:=hg.HK
 have hy:VR c1 (.func (.yield l) #[] #[]) (.yield id):=.yield id l hd hno hρ
 have hvs:aQ c1 (.func (.yield l) #[] #[]::cs) (.yield id::cap):=⟨by simpa using hcs.1,fun i u d hu hd'=>by
  cases i with
  |zero=>simp at hu hd';subst hu hd';exact hy
  |succ i=>exact hcs.2 i u d (by simpa using hu) (by simpa using hd')⟩
 obtain⟨⟨fn,hfn,hb⟩,hcalls⟩:=hc.fn hcall hs1 P1 hvs
 have hb':fn.body.isNone=false:=by cases hx:fn.body<;>simp_all
 have hn:=hF.name gf fn hfn
 refine⟨{ target:=.fn (.func gf) cs.toArray,args:=#[.func (.yield l) #[] #[]] },c1.w,gf,(.func (.yield l) #[] #[]::cs).toArray,c1.w,?_,fun f' _=>hF.fn f',?_,hF.asks,CallsIn.mono (hcalls _) fun en w3 he=>?_⟩
 ·simp only[rangeCall,resolve,e,Deferred.ofValue]
  simp[Act.eval]
 ·have e2:(#[.func (.yield l) #[] #[]]++cs.toArray:Array Value)=(.func (.yield l) #[] #[]::cs).toArray:=by apply Array.ext';simp
  simp only[invoke,callFunc,Sem.run_bind,run_program,hfn,hn,hb',yAx,if_false,Sem.run_pure,Result.andThen_ok,e2]
 ·cases en with
  |panicked ch=>exact he.elim
  |outgrown=>exact he.elim
  |returned v=>
   obtain⟨c2,rfl,e2,hs2,fS,_,_⟩:=he
   have o7:=fS.bF id hd
   obtain⟨er,P2⟩:=fS.mE id hd hno
   have o8:=er.trans hρ
   unfold HG at hleave
   rw[<-e2]at hleave
   split at hleave
   ·rename_i jS EE EF EG hlo
    simp only[yAb]at hleave;subst hleave
    obtain⟨r2,hh,_,_,_,_,hst⟩:=BM hs2 o7 hlo o8
    obtain⟨c3,w3,e3,hs3,oN⟩:=P3 (fl:=fl) (r':={ r2 with state:=.exhausted }) hs2 o7 hlo o8 hfl hh
    refine⟨_,_,run_endLoop hh (by rw[hst.1];simp),?_⟩
    rw[<-w3,hst.2]
    exact hQ c3 a' e3 hs3 (fS.trans oN) ((hf.mono fS).mono oN) ((hm.mono fS).mono oN)
   ·rename_i jS EE EF EG hlo
    simp only[yAb]at hleave;subst hleave
    obtain⟨r2,hh,_,_,_,_,hst⟩:=BM hs2 o7 hlo o8
    obtain⟨c3,w3,e3,hs3,oN⟩:=P3 (fl:=fl) (r':={ r2 with state:=.exhausted }) hs2 o7 hlo o8 hfl hh
    refine⟨_,_,run_endLoop hh (by rw[hst.1];simp),?_⟩
    rw[<-w3,hst.2]
    exact wpIn_ret (hQ c3 a' e3 hs3 (fS.trans oN) ((hf.mono fS).mono oN) ((hm.mono fS).mono oN))
   ·rename_i k jS EE EF EG hlo
    simp only[yAb]at hleave;subst hleave
    obtain⟨r2,hh,_,_,_,_,hst⟩:=BM hs2 o7 hlo o8
    obtain⟨c3,w3,e3,hs3,oN⟩:=P3 (fl:=fl) (r':={ r2 with state:=.exhausted }) hs2 o7 hlo o8 hfl hh
    refine⟨_,_,run_endLoop hh (by rw[hst.1];simp),?_⟩
    rw[<-w3,hst.2]
    exact wpIn_exit (hQ c3 a' e3 hs3 (fS.trans oN) ((hf.mono fS).mono oN) ((hm.mono fS).mono oN))
   ·simp at hleave
theorem aFT(hF:Open F P)(hc:Ok F P call){rd:Option Nat}{gf:FuncId}{cap fr:List PD}{ps:Array Tmp}{assign body:Code}{ms:List Nat}{cx:Cx}{a:Act}{r:PO}{m:Nat}{Q:Exit->Act->World->Prop}{g:Operand}
  (h:HL call rd gf cap ps.toList assign body fl fr ms cx.σ=some r) (hs:Sr cx) (hX:Xw fl cx) (hf:FR cx a fr) (hm:MR cx a.defers ms) (hr:yU F cx rd) (hg:VR cx (a.eval g) (.func gf cap))
  (hQ:∀kT oM,kT.σ=r.σ->Sr kT->Nx fl cx kT->FR kT oM r.fr->MR kT oM.defers r.ms->Q r.x.HJ oM kT.w):(Code.rangeFunc g ps assign body).wpIn F m P Q a cx.w:=by
 refine wpIn_rangeFunc fun fn _=>?_
 unfold HL at h
 split at h
 ·rename_i hfl
  split at h
  ·
   split at h
   ·rename_i q σ2 hcall
    have hro:F.round=none:=hr
    have g1:cx.w.grownBy (cx.w.alloc (.deferred (some []))) none:=wC _ _
    have b1:∀b,aV (.pointer (some ⟨cx.w.heap.size,0,none⟩))=some b->cx.w.heap.size<=b/\b<(cx.w.alloc (.deferred (some []))).heap.size:=fun b hb=>by simp[aV]at hb;subst hb;simp
    let c1:=cx.push (cx.w.alloc (.deferred (some []))) (.pointer (some ⟨cx.w.heap.size,0,none⟩)) .mark
    have hs1:Sr c1:=Sr.push hs g1 b1 ⟨_,rfl,heap_alloc_new _ _⟩
    have jT:Nx fl cx c1:=Nx.push hs g1 (fun b hb=>(b1 b hb).1)
    have l1:c1.σ.length=cx.σ.length+1:=by simp[c1,Cx.push]
    let rQ:Loop:={ state:=.ready,pending:=none,fn,tmps:=a.tmps,params:=ps,assign,body,defers:=cx.w.heap.size }
    have g2:c1.w.grownBy (c1.w.alloc (.loop rQ)) none:=wC _ _
    have xG:c1.w.heap.size=cx.w.heap.size+1:=by show(cx.w.alloc _).heap.size=_;simp
    have b2:∀b,aV (.pointer (some ⟨cx.w.heap.size+1,0,none⟩))=some b->c1.w.heap.size<=b/\b<(c1.w.alloc (.loop rQ)).heap.size:=fun b hb=>by simp[aV]at hb;subst hb;simp[xG]
    have hnew:(c1.w.alloc (.loop rQ)).heap[cx.w.heap.size+1]?=some (.loop rQ):=by rw[<-xG];exact heap_alloc_new _ _
    let c2:=c1.push (c1.w.alloc (.loop rQ)) (.pointer (some ⟨cx.w.heap.size+1,0,none⟩)) (.loop .ready fr ps.toList assign body)
    have hs2:Sr c2:=Sr.push hs1 g2 b2 ⟨_,_,rfl,hnew,by simp[rQ],rfl,rfl,aQ.mono jT hf.1,⟨rfl,rfl⟩⟩
    have fS:Nx fl c1 c2:=Nx.push hs1 g2 (fun b hb=>(b2 b hb).1)
    have HM:=jT.trans fS
    have P4:c2.σ=cx.σ++[.mark]++[.loop .ready fr ps.toList assign body]:=rfl
    have pn:=fO (c:=c1) (w:=c1.w.alloc (.loop rQ)) (v:=.pointer (some ⟨cx.w.heap.size+1,0,none⟩)) (o:=.loop .ready fr ps.toList assign body)
    rw[l1]at pn
    rw[<-P4]at hcall
    obtain⟨d,w₁',f,args,w₂,h1,h2,h3,h4,h5⟩:=YX (n:=m) (a:=a) (a':={ a with defers:=[{ target:=.collected cx.w.heap.size,args:=#[] }]++a.defers }) (g:=g) (Q:=Q) hF hc hs2 (hX.next hs HM) pn.2.2 pn.2.1 (by rw[pn.1];trivial) (by omega) (hg.mono HM) hcall h (hf.mono HM)
     ⟨⟨_,rfl,fS.bF _ (.inr rfl),by rw[tJ (id:=cx.σ.length) hs1 (.inr rfl),fO.1];trivial,(oD hs1 (.inr rfl)).trans fO.2.1⟩,hm.mono HM⟩
     (fun kT oM e1 q1 q2 q3 q4=>hQ kT oM e1 q1 (HM.trans q2) q3 q4)
    refine⟨_,_,c2.w,d,w₁',f,args,w₂,?_,h1,h2,h3,h4,h5⟩
    rw[hro]
    exact run_enterLoop_outer fn a.tmps ps assign body
   ·simp at h
  ·
   rename_i id0
   split at h
   ·rename_i st0 jS EE EF EG hlo0
    split at h
    ·rename_i q σ2 hcall
     obtain⟨l0,hro,rR,aRV,aFU⟩:=hr
     obtain⟨r0,hh0,_⟩:=BM hs rR hlo0 aFU
     let rQ:Loop:={ state:=.ready,pending:=none,fn,tmps:=a.tmps,params:=ps,assign,body,defers:=r0.defers }
     have g2:cx.w.grownBy (cx.w.alloc (.loop rQ)) none:=wC _ _
     have b2:∀b,aV (.pointer (some ⟨cx.w.heap.size,0,none⟩))=some b->cx.w.heap.size<=b/\b<(cx.w.alloc (.loop rQ)).heap.size:=fun b hb=>by simp[aV]at hb;subst hb;simp
     let c2:=cx.push (cx.w.alloc (.loop rQ)) (.pointer (some ⟨cx.w.heap.size,0,none⟩)) (.loop .ready fr ps.toList assign body)
     have hs2:Sr c2:=Sr.push hs g2 b2 ⟨_,_,rfl,heap_alloc_new _ _,by simp[rQ],rfl,rfl,hf.1,⟨rfl,rfl⟩⟩
     have fS:Nx fl cx c2:=Nx.push hs g2 (fun b hb=>(b2 b hb).1)
     have P4:c2.σ=cx.σ++[.loop .ready fr ps.toList assign body]:=rfl
     have pn:=fO (c:=cx) (w:=cx.w.alloc (.loop rQ)) (v:=.pointer (some ⟨cx.w.heap.size,0,none⟩)) (o:=.loop .ready fr ps.toList assign body)
     rw[<-P4]at hcall
     obtain⟨d,w₁',f,args,w₂,h1,h2,h3,h4,h5⟩:=YX (n:=m) (a:=a) (a':={ a with defers:=[]++a.defers }) (g:=g) (Q:=Q) hF hc hs2 (hX.next hs fS) pn.2.2 pn.2.1 (by rw[pn.1];trivial) hfl (hg.mono fS) hcall h (hf.mono fS)
      (hm.mono fS) (fun kT oM e1 q1 q2 q3 q4=>hQ kT oM e1 q1 (fS.trans q2) q3 q4)
     refine⟨_,_,c2.w,d,w₁',f,args,w₂,?_,h1,h2,h3,h4,h5⟩
     rw[hro]
     unfold Instr.enterLoop
     simp only[Sem.run_bind,run_getLoop hh0,run_newObj_alloc,Result.andThen,Sem.run_pure]
     rfl
    ·simp at h
   ·simp at h
 ·simp at h
end
theorem aFV{P:Program}{E:aD}(hE:aE P E)(hP:P.follows .mixedOrders=true):∀n,P5 P (iR P E n):=by
 intro n
 induction n with
 |zero=>intro F rd c fl fr ms cx r a hF h;simp[iR]at h
 |succ n ih=>
  intro F rd c fl fr ms cx r a hF h hs hX hf hm hr m Q hQ
  have hc:Ok F P (rP P E (iR P E n)):=YY hE ih hF
  unfold iR at h
  split at h
  ·simp only[yAb]at h;subst h
   exact wpIn_skip (hQ cx a rfl hs (.refl _ _) hf hm)
  ·split at h
   ·rename_i id ops _ fr' σ' hseq
    simp only[yAb]at h;subst h
    refine wpIn_region ?_
    unfold yT at hseq
    rw[List.range_eq_range']
    split at hseq
    ·rename_i x hx
     simp only[yAb]at hseq
     subst hseq
     have:=YZ (n:=m) (Q:=Q) hF hc ops.toList 0 (by simp) hs hX hf hx (fun c' a' e1 q1 q2 q3 q4=>hQ c' a' e1 q1 q2 q3 (by rw[q4];exact hm.mono q2))
     simpa using this
    ·have:=aFW (n:=m) (Q:=Q) hF hc hs hX hf hseq (fun c' a' e1 q1 q2 q3 q4=>hQ c' a' e1 q1 q2 q3 (by rw[q4];exact hm.mono q2))
     simpa using this
   ·simp at h
  ·split at h
   ·rename_i id ops _ fr' σ' hdr
    simp only[yAb]at h;subst h
    refine wpIn_region_any hP ?_
    have hg:cx.w.grownBy cx.w.drew none:=Y0 _
    have nx:Nx fl cx (cx.at cx.w.drew):=Nx.grow hs hg
    exact aFX (n:=m) (c0:=cx.at cx.w.drew) hF hc (Sr.grow hs hg) (hX.next hs nx) (hf.mono nx) hdr (fun c' a' e1 q1 q2 q3 q4=>hQ c' a' e1 q1 (nx.trans q2) q3 (by rw[q4];exact(hm.mono nx).mono q2))
   ·simp at h
  ·rename_i x y
   refine wpIn_seq ?_
   split at h
   ·rename_i aL ms1 σ1 hx
    refine o9.wpIn (ih hF hx hs hX hf hm hr m _ fun c1 a1 e1 hs1 jT jP nT=>?_)
    simp only at e1 jP nT
    rw[<-e1]at h
    exact o9.wpIn (ih hF h hs1 (hX.next hs jT) jP nT (hr.mono jT) m _ fun c2 a2 e2 hs2 fS wZ hm2=>hQ c2 a2 e2 hs2 (jT.trans fS) wZ hm2)
   ·rename_i hne
    refine o9.wpIn (ih hF h hs hX hf hm hr m _ fun c1 a1 e1 hs1 jT jP nT=>?_)
    have:=hQ c1 a1 e1 hs1 jT jP nT
    obtain⟨x',aL,ms1,σ1⟩:=r
    cases x' with
    |normal=>exact absurd h (hne _ _ _)
    |ret=>exact this
    |exit k=>exact this
  ·rename_i g x y
   split at h
   ·rename_i hg
    exact wpIn_cond_true (dW hf hg).xD (o9.wpIn (ih hF h hs hX hf hm hr m Q hQ))
   ·rename_i hg
    exact wpIn_cond_false (dW hf hg).xD (o9.wpIn (ih hF h hs hX hf hm hr m Q hQ))
   ·simp at h
  ·rename_i id b
   refine wpIn_block ?_
   split at h
   ·rename_i k aL ms1 σ1 hx
    simp only[yAb]at h;subst h
    refine o9.wpIn (ih hF hx hs hX hf hm hr m _ fun c1 a1 e1 hs1 jT jP nT=>?_)
    have:=hQ c1 a1 e1 hs1 jT jP nT
    simp only[PX.HJ,Exit.inBlock]
    by_cases hk:k=id
    ·simp only[hk,if_true]at this ⊢;exact this
    ·simp only[hk,if_false]at this ⊢;exact this
   ·rename_i hne
    refine o9.wpIn (ih hF h hs hX hf hm hr m _ fun c1 a1 e1 hs1 jT jP nT=>?_)
    have:=hQ c1 a1 e1 hs1 jT jP nT
    obtain⟨x',aL,ms1,σ1⟩:=r
    cases x' with
    |normal=>exact this
    |ret=>exact this
    |exit k=>exact absurd h (hne _ _ _ _)
  ·rename_i b
   show xH F m P b Q a cx.w
   refine xH.round ?_
   split at h
   ·rename_i aL ms1 σ1 hx
    refine o9.wpIn (ih hF hx hs hX hf hm hr m _ fun c1 a1 e1 hs1 jT jP nT=>?_)
    simp only at e1 jP nT
    rw[<-e1]at h
    exact ih hF h hs1 (hX.next hs jT) jP nT (hr.mono jT) m Q fun c2 a2 e2 hs2 fS wZ hm2=>hQ c2 a2 e2 hs2 (jT.trans fS) wZ hm2
   ·rename_i hne
    refine o9.wpIn (ih hF h hs hX hf hm hr m _ fun c1 a1 e1 hs1 jT jP nT=>?_)
    have:=hQ c1 a1 e1 hs1 jT jP nT
    obtain⟨x',aL,ms1,σ1⟩:=r
    cases x' with
    |normal=>exact absurd h (hne _ _ _)
    |ret=>exact this
    |exit k=>exact this
  ·rename_i g ps assign body
   split at h
   ·rename_i gf cap hg
    exact aFT hF hc h hs hX hf hm hr (dW hf hg) hQ
   ·simp at h
  ·simp only[yAb]at h;subst h
   exact wpIn_exit (hQ cx a rfl hs (.refl _ _) hf hm)
  ·simp only[yAb]at h;subst h
   exact wpIn_ret (hQ cx a rfl hs (.refl _ _) hf hm)
  ·simp at h
theorem vX{P:Program}{E:aD}(hE:aE P E)(hP:P.follows .mixedOrders=true){F:Fence}(hF:Open F P)(n:Nat):Ok F P (iP P E n):=YY hE (aFV hE hP n) hF
end
end Go.Kz
end
