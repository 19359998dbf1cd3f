/- Steps of the proof. -/
import Derived.Lib.AppendZerosOnto
import Derived.Test.YteegpeenjdgodaaGreatDoorG1
import Derived.OrdersIn
set_option linter.all false
set_option maxHeartbeats 40000000
set_option maxRecDepth 100000
noncomputable section
namespace Go.Kz
section
open Go.RowKit
section
variable{P:Program}{c:Cx}{fl:Nat}
theorem BT(n:Nat):∀(k:Nat) (cs:List PD),(sJ n k cs).length=k
 |0,_=>rfl
 |k+1,cs=>by simp[sJ,BT n k]
theorem NR(n:Nat):∀(k:Nat) (cs:List PD),k*n<=cs.length->(sJ n k cs).flatMap PD.cells=cs.take (k*n)
 |0,_,_=>by simp[sJ]
 |k+1,cs,h=>by
  have h':k*n+n<=cs.length:=by rw[yBw]at h;omega
  rw[sJ,yBr,NR n k (cs.drop n) Aw];show cs.take n++(cs.drop n).take (k*n)=_
  rw[yBw,Nat.one_mul,yDo (k*n) n,List.take_add]
theorem NS(n:Nat):∀(k:Nat) (cs:List PD),k*n<=cs.length->∀x∈sJ n k cs,x.cells.length=n
 |0,_,_,x,hx=>by simp[sJ]at hx
 |k+1,cs,h,x,hx=>by
  have h':k*n+n<=cs.length:=by rw[yBw]at h;omega
  rw[sJ]at hx;rcases yBh.1 hx with rfl|hx
  .simp[PD.cells];omega
  .exact NS n k (cs.drop n) Aw x hx
theorem aIG(hs:Sr c){x:PD}{sz:Nat}{ys:Gc}(h:vY c.σ x=some (sz,ys)){vx:Value}(hx:VR c vx x):∃B cap fly,vx=.slice B ys.length cap/\ys.length<=cap/\(∀y∈ys,y.cells.length=sz)/\fly.length=ys.length*sz/\(∀v∈fly,v.oneCell'=true) /\
  (∀(j:Nat) (v:Value),fly[j]?=some v->∃ad,B=some ad/\c.w.cell? (ad.add j)=some v)/\aV c fly (ys.flatMap PD.cells):=by
 unfold vY at h;split at h
 .rename_i lL ys0 tok;simp only[yAb,yAc]at h;obtain⟨rfl,rfl⟩:=h;obtain⟨A,cap,fly,rfl,a1,a2,a3,a4,a5,a6,a7,a8⟩:=hx.oF;refine⟨A,cap,fly,rfl,a1,a3,a4,a5,λj v hj=>?_,by rw[a4,D5 _ a3],a7⟩;exact lu
 .rename_i id ver off n lL;split at h
  .rename_i e sz' fO cs hq;split at h
   .rename_i hc;obtain⟨rfl,rfl,hle⟩:=hc;simp only[yAb,yAc]at h;obtain⟨rfl,rfl⟩:=h;obtain⟨b,cap,rfl,hp,h1,h2⟩:=hx.BU;obtain⟨_,C,q2,q3⟩:=(hp.2 e _ _ cs hq).2 rfl;obtain⟨b',C',cur,e1,e2,e3,e4,e5,e6,e7,e8⟩:=hs.row id e _ _ cs hp.1 hq;rw[q2]at e1;simp only[yBN,yAb,yBG,yBl,yCp]at e1;obtain⟨rfl,rfl⟩:=e1;have hdl:n*sz'<=(cs.drop off).length:=Aw;have hlen:(((cur.toList.take cs.length).drop off).take (n*sz')).length=n*sz':=Aw;refine⟨some ⟨b,off,none⟩,cap,((cur.toList.take cs.length).drop off).take (n*sz'),by rw[BT],by rw[BT];exact h1,NS _ _ _ hdl,by rw[hlen,BT],?_,?_,?_⟩
    .intro v hv;exact e8 v (yAy (yBi (yAy hv)))
    .intro j v hj;refine⟨_,rfl,?_⟩;rw[tJ];simp only[World.cell?,e2];rw[yAv]at hj;split at hj
     .rw[yBn,yAv]at hj;split at hj
      .simpa using hj
      .cases hj
     .cases hj
    .rw[NR _ _ _ hdl];exact e7.take_drop off (n*sz')
   .cases h
  .cases h
 .rename_i id off n lL;split at h
  .rename_i q hq;split at h
   .rename_i hle;simp only[yAb,yAc]at h;obtain⟨rfl,rfl⟩:=h;obtain⟨b,cap,rfl,hD,_,hr,h1,h2⟩:=hx.D1;obtain⟨b',cur,T,e1,e2,e3,e4⟩:=hs.box id q hD hq;rw[hr]at e1;simp only[yCJ,yAb,yBG,yBl]at e1;subst e1;have hdl:n*lL<=(q.cells.drop off).length:=Aw;have hcl:cur.toList.length=q.cells.length:=e3.1;have hlen:((cur.toList.drop off).take (n*lL)).length=n*lL:=by rw[yAt,yBg];omega
    refine⟨some ⟨b,off,none⟩,cap,(cur.toList.drop off).take (n*lL),by rw[BT],by rw[BT];exact h1,NS _ _ _ hdl,by rw[hlen,BT],?_,?_,?_⟩
    .intro v hv;exact e4.1 v (yBi (yAy hv))
    .intro j v hj;refine⟨_,rfl,?_⟩;rw[tJ];simp only[World.cell?,e2];rw[yAv]at hj;split at hj
     .exact ju
     .cases hj
    .rw[NR _ _ _ hdl];exact e3.take_drop off (n*lL)
   .cases h
  .cases h
 .cases h
theorem NT{zs:Gf}(h:∀v∈zs.toList,v.oneCell'=true)(h0:0<zs.size)(n:Nat):∀v∈(Builtin.zeroCells zs n).toList,v.oneCell'=true:=by
 intro v hv;simp only[Builtin.zeroCells,yDp,yDq,yAw]at hv;obtain⟨k,_,rfl⟩:=hv;have kP:k%zs.size<zs.size:=yBs _ h0;apply h;simp[kP]
theorem aIH{w:World}{t ty e:TypeId}{i:TypeInfo}{z:Value}(hu:P.underlying t=some (.slice e))(hi:P.info? e=some i)(hz:i.zero=some z)(hzs:z.cells.size=i.size)(hpos:0<i.size)(hz1:∀v∈z.cells.toList,v.oneCell'=true)
  {A B:Option Addr} {n cap m c':Nat} {flx fly:Ge} (hA:A=none->n=0/\cap=0) (hlx:flx.length=n*i.size) (hx:∀(j:Nat) (v:Value),flx[j]?=some v->∃ad,A=some ad/\w.cell? (ad.add j)=some v)
  (hly:fly.length=m*i.size) (hy:∀(j:Nat) (v:Value),fly[j]?=some v->∃ad,B=some ad/\w.cell? (ad.add j)=some v) (JK:∀v∈flx,v.oneCell'=true) (S2:∀v∈fly,v.oneCell'=true) (hm:0<m) (hcap:cap<n+m) (hmax:n+m<=maxLen) (hby:(n+m)*i.bytes<=140737488355328) :
  ∃C cur w',(Builtin.append_ #[t,t] ty #[.slice A n cap,.slice B m c']).run P w=.ok (.slice (some ⟨w.heap.size,0,none⟩) (n+m) C) w'/\w.grownBy w' none/\w'.heap[w.heap.size]?=some (.cells cur e (0,0))/\cur.size=C*i.size /\
   n+m<=C/\C<=maxLen/\(∀v∈cur.toList,v.oneCell'=true)/\∃rest,cur.toList=flx++fly++rest:=by
 have S3:0<fly.length:=by rw[hly];exact yDr hm hpos
 obtain⟨bd,rfl,_⟩:=hy 0 fly[0] (by simp[S3]);have hnews:∀(j:Nat) (u:Value),fly[j]?=some u->w.cell? (bd.add j)=some u:=λj u hj=>by
  obtain⟨ad,e',h9⟩:=hy j u hj;exact kj
 have fin:∀old,old<n+m->w.grownBy (w.drew.alloc (.cells (flx.toArray++fly.toArray++Builtin.zeroCells z.cells (grownCap w (n+m) old e-(n+m))) e)) none /\
   (w.drew.alloc (.cells (flx.toArray++fly.toArray++Builtin.zeroCells z.cells (grownCap w (n+m) old e-(n+m))) e)).heap[w.heap.size]?=some (.cells (flx.toArray++fly.toArray++Builtin.zeroCells z.cells (grownCap w (n+m) old e-(n+m))) e (0,0)) /\
   (flx.toArray++fly.toArray++Builtin.zeroCells z.cells (grownCap w (n+m) old e-(n+m))).size=grownCap w (n+m) old e*i.size/\n+m<=grownCap w (n+m) old e/\grownCap w (n+m) old e<=maxLen /\
   (∀v∈(flx.toArray++fly.toArray++Builtin.zeroCells z.cells (grownCap w (n+m) old e-(n+m))).toList,v.oneCell'=true)/\∃rest,(flx.toArray++fly.toArray++Builtin.zeroCells z.cells (grownCap w (n+m) old e-(n+m))).toList=flx++fly++rest:=by
  intro old ho;have hge:=yDs w (n+m) old e;have hcm:grownCap w (n+m) old e<=maxLen:=yDN w (n+m) old e hmax;refine⟨⟨rfl,rfl,rfl,Ai,λk hk _=>yDt w.drew _ hk⟩,yBZ w.drew _,?_,hge,hcm,?_,_,by simp only[yDO];rfl⟩
  .simp only[yDP,yCq,yDu,hzs,hlx,hly,<-yBw]
   congr 1
   omega
  .intro v hv;simp only[yDO,yBf]at hv;rcases hv with(hv|hv)|hv
   .exact JK v hv
   .exact S2 v hv
   .exact NT hz1 Ah _ v hv
 cases A with
 |none=>
  obtain⟨rfl,rfl⟩:=hA rfl;have JL:flx=[]:=yAf (by rw[hlx];simp);subst JL;have hr:=run_append_nil (P:=P) w t ty e i z hu hi hz bd m c' fly hly hnews Ah Eh (by have hb:=hby;simp only[yAp]at hb;omega);have:=fin 0 Ah;simp only[yAp,yAO,Array.empty_append]at this ⊢;exact⟨_,_,_,hr,this⟩
 |some ad=>
  have holds:∀(j:Nat) (u:Value),flx[j]?=some u->w.cell? (ad.add j)=some u:=λj u hj=>by
   obtain⟨JM,e',h9⟩:=hx j u hj;exact kj
  have hr:=run_append_grow (P:=P) w t ty e i z hu hi hz ad n cap flx hlx holds bd m c' fly hly hnews hcap Eh (growslice_fits hcap hby);exact⟨_,_,_,hr,fin cap hcap⟩
theorem aII{w:World}{t ty e:TypeId}{i:TypeInfo}(hu:P.underlying t=some (.slice e))(hi:P.info? e=some i){b off n cap m c':Nat}{B:Option Addr}{fly:Ge}
  (hly:fly.length=m*i.size) (hy:∀(j:Nat) (v:Value),fly[j]?=some v->∃ad,B=some ad/\w.cell? (ad.add j)=some v) (hroom:n+m<=cap) :
  (Builtin.append_ #[t,t] ty #[.slice (some ⟨b,off,none⟩) n cap,.slice B m c']).run P w=Result.andThen ((storeCells ⟨b,off+n*i.size,none⟩ fly).run P w) (λ_ w'=>.ok (.slice (some ⟨b,off,none⟩) (n+m) cap) w'):=by
 have hf:(Builtin.firstCells i.size m (.slice B m c')).run P w=.ok fly.toArray w:=by
  cases B with
  |none=>
   have:fly=[]:=by
    cases fly with
    |nil=>rfl
    |cons x xs=>obtain⟨_,e',_⟩:=hy 0 x rfl;cases e'
   exact rm
  |some bd=>
   simp only[Builtin.firstCells];exact BV hly λj v hj=>by
    obtain⟨ad,e',h9⟩:=hy j v hj;exact kj
 simp[Builtin.append_,yAM hu,sizeOf,typeInfo,hi,Builtin.lenOf,hroom,hf,tJ]
structure aIJ (P:Program) (w:World) (t u ty e:TypeId) (i:TypeInfo) (vx:Value) (m:Nat) (fly:List Value):Prop where
 none_:m=0->∀(A:Option Addr) (n cap:Nat),n<=cap->(Builtin.append_ #[t,u] ty #[.slice A n cap,vx]).run P w=.ok (.slice A n cap) w
 grow:0<m->∀(A:Option Addr) (n cap:Nat) (flx:List Value),(A=none->n=0/\cap=0)->flx.length=n*i.size->(∀(j:Nat) (v:Value),flx[j]?=some v->∃ad,A=some ad/\w.cell? (ad.add j)=some v)->(∀v∈flx,v.oneCell'=true) ->
  cap<n+m->n+m<=maxLen->(n+m)*i.bytes<=140737488355328 ->
  ∃C cur w',(Builtin.append_ #[t,u] ty #[.slice A n cap,vx]).run P w=.ok (.slice (some ⟨w.heap.size,0,none⟩) (n+m) C) w'/\w.grownBy w' none/\w'.heap[w.heap.size]?=some (.cells cur e (0,0))/\cur.size=C*i.size /\
   n+m<=C/\C<=maxLen/\(∀v∈cur.toList,v.oneCell'=true)/\∃rest,cur.toList=flx++fly++rest
 room:∀(b off n cap:Nat),n+m<=cap->(Builtin.append_ #[t,u] ty #[.slice (some ⟨b,off,none⟩) n cap,vx]).run P w=Result.andThen ((storeCells ⟨b,off+n*i.size,none⟩ fly).run P w) (λ_ w'=>.ok (.slice (some ⟨b,off,none⟩) (n+m) cap) w')
theorem aIK(hs:Sr c){fn:Nat}{t u ty:TypeId}{s x p:PD}{σ':Gb}(h:fR P fn fl c.σ t s x=some (p,σ')){vs vx:Value}(hvs:VR c vs s)
  (hsrc:∀e i z sz' ys,P.underlying t=some (.slice e)->vY c.σ x=some (sz',ys)->P.info? e=some i->i.zero=some z->z.cells.size=i.size->0<i.size->(∀v∈z.cells.toList,v.oneCell'=true)->(ys.length=0\/sz'=i.size) ->
   ∃fly:List Value,fly.length=ys.length*i.size/\(∀v∈fly,v.oneCell'=true)/\aV c fly (ys.flatMap PD.cells)/\aIJ P c.w t u ty e i vx ys.length fly) :
  ∃v w',(Builtin.append_ #[t,u] ty #[vs,vx]).run P c.w=.ok v w'/\Leaves fl c p σ' v w':=by
 unfold fR at h;split at h
 rotate_left
 .cases h
 split at h
 rotate_left
 .cases h
 rename_i e sz' ys hu hw;split at h
 rotate_left
 .cases h
 rename_i i hi;split at h
 rotate_left
 .cases h
 rename_i z hz;split at h
 rotate_left
 .cases h
 rename_i hc;obtain⟨GP,hpos,hzs,hz1⟩:=hc;have hz1:∀v∈z.cells.toList,v.oneCell'=true:=λv hv=>yAn.1 hz1 v hv
 obtain⟨fly,hly,b4,b6,hS⟩:=hsrc e i z sz' ys hu hw hi hz hzs hpos hz1 GP;split at h
 ·
  rename_i sz xs tok;split at h
  rotate_left
  .cases h
  rename_i hc;obtain⟨hsz,hmax,hby,htok⟩:=hc;obtain⟨A,cap,flx,rfl,a1,a2,a3,a4,a5,a6,a7,a8⟩:=hvs.oF;have hcells:∀(j:Nat) (v:Value),flx[j]?=some v->∃ad,A=some ad/\c.w.cell? (ad.add j)=some v:=λj v hj=>by
   exact lu
  split at h
  .rename_i h0;simp only[yAb,yAc]at h;obtain⟨rfl,rfl⟩:=h;exact⟨.slice A xs.length cap,c.w,hS.none_ h0 A xs.length cap a1,c,rfl,rfl,hs,.refl _ _,hvs,λ_ h=>.inl h⟩
  .rename_i h0;simp only[yAb,yAc]at h;obtain⟨rfl,rfl⟩:=h;have hcapn:xs.length=cap:=by
    cases tok<;>first|(simp[Tok.fresh]at htok;done)|(simp only[rC]at a8;omega)
   have hlx:flx.length=xs.length*i.size:=by
    exact vf
   have hA:A=none->xs.length=0/\cap=0:=by
    rintro rfl
    have hx0:xs.length=0:=by
     rcases yEb xs.length with h0|h0
     .exact h0
     .have:0<flx.length:=by rw[hlx];exact yDr h0 hpos
      exact ve
    exact⟨hx0,Ah⟩
   obtain⟨C,cur,w',r,g1,g2,g3,g4,g5,g6,rest,g7⟩:=hS.grow (yCY h0) A xs.length cap flx hA hlx hcells a5 Ah hmax hby;have hcl:((xs++ys).flatMap PD.cells).length=(flx++fly).length:=by
    rw[yEc,yAa,yAa,D5 xs a3,b6.1,a4]
   have hvr:aV c (cur.toList.take ((xs++ys).flatMap PD.cells).length) ((xs++ys).flatMap PD.cells):=by
    rw[hcl,g7,yCr,yEc];exact aV.append ⟨by rw[D5 xs a3,a4],a7⟩ b6
   have hcs:((xs++ys).flatMap PD.cells).length<=cur.size:=by
    rw[hcl];have:=yAK List.length g7;simp at this ⊢;omega
   have hbk:∀b,bA (.slice (some ⟨c.w.heap.size,0,none⟩) 0 C)=some b->c.w.heap.size<=b:=λb hb=>En
   refine⟨_,w',r,c.push w' (.slice (some ⟨c.w.heap.size,0,none⟩) 0 C) (.row e i.size 0 ((xs++ys).flatMap PD.cells)),rfl,rfl,?_,Nx.push hs g1 hbk,?_,?_⟩
   .refine Sr.push hs g1 (λb hb=>⟨hbk b hb,?_⟩) ⟨_,C,cur,rfl,g2,g3,g5,hpos,hcs,hvr,g6⟩;simp[bA]at hb;subst hb;exact gJ g2
   .refine .aR _ _ _ _ _ _ _ ⟨.inr rfl,λe' lL v' cs hq=>?_⟩ g4 g5;rw[gV.1]at hq;simp only[yAb,aB.row.injEq]at hq;obtain⟨rfl,rfl,rfl,rfl⟩:=hq;exact⟨yAk _,λ_=>⟨rfl,C,gV.2.1,Ai⟩⟩
   .exact dj
 ·
  rename_i id ver off n sz;split at h
  rotate_left
  .cases h
  rename_i hc;obtain⟨hfl,rfl,hmax,hby⟩:=hc;split at h
  rotate_left
  .cases h
  rename_i e' lL fO cs hq;split at h
  rotate_left
  .cases h
  rename_i hc;obtain⟨rfl,rfl,rfl⟩:=hc;obtain⟨b,cap,rfl,hp,h1,h2⟩:=hvs.BU;obtain⟨_,C,hr,hCo⟩:=(hp.2 _ _ _ cs hq).2 rfl;have hbase:=hs.row id _ _ _ cs hp.1 hq;obtain⟨b',C',cur,e1,e2,e3,e4,e5,e6,e7,e8⟩:=hbase;rw[hr]at e1;simp only[yBN,yAb,yBG,yBl,yCp]at e1;obtain⟨rfl,rfl⟩:=e1;split at h
  ·
   rename_i hin;simp only[yAb,yAc]at h;obtain⟨rfl,rfl⟩:=h;have hroom:n+ys.length<=cap:=by
    have:(n+ys.length)*i.size<=cap*i.size:=Ah;exact Nat.le_of_mul_le_mul_right this hpos
   obtain⟨w',hst,hs',hn'⟩:=aBy (P:=P) (fl:=fl) hs hp.1 hq hr b6 b4 (off:=off+n*i.size) (by rw[<-b6.1,hly];rw[yBw]at hin;omega) hfl;refine⟨.slice (some ⟨b,off,none⟩) (n+ys.length) cap,w',?_,_,rfl,rfl,hs',hn',?_,λi hi=>.inl hi⟩
   .rw[hS.room b off n cap hroom,hst];rfl
   .exact .aR _ _ _ _ _ _ _ (hp.nU hn'.S4) hroom h2
  .split at h
   rotate_left
   .cases h
   rename_i hc;obtain⟨rfl,hn⟩:=hc;simp only[yAb,yAc]at h;obtain⟨rfl,rfl⟩:=h;have hcapC:cap=C:=yEd hpos Ah;subst hcapC;have hyp:ys.length≠0:=λh0=>by
    rename_i hin;rw[h0,yBo,yAp]at hin;omega
   by_cases hroom:n+ys.length<=cap
   .have hfit:cs.length+fly.length<=cur.size:=by
     rw[e3,hly,<-hn,<-yBw];exact yBO _ hroom
    have hst:=yCZ (P:=P) b (0+n*i.size) _ fly 0 cur c.w e2 Ah b4;simp only[yBo,yAp]at hst;have hrun:=hS.room b 0 n cap hroom;rw[yAp,hst]at hrun;have hk:∀k,k<c.w.heap.size->bA (c.ρ id)≠some k->(c.w.setRow b (List.take (n*i.size) cur.toList++fly++List.drop (n*i.size+fly.length) cur.toList).toArray).heap[k]?=c.w.heap[k]?:=
     λk _ hk=>yBP _ _ _ _ (λh=>hk (by rw[hr,h];rfl))
    have hcr:(List.take (n*i.size) cur.toList++fly++List.drop (n*i.size+fly.length) cur.toList).length=cur.size:=Aw;have hall:∃b0 C0 l7,c.ρ id=.slice (some ⟨b0,0,none⟩) 0 C0/\(c.w.setRow b (List.take (n*i.size) cur.toList++fly++List.drop (n*i.size+fly.length) cur.toList).toArray).heap[b0]?=some (.cells l7 e' (0,0))/\l7.size=C0*i.size/\C0<=maxLen/\0<i.size /\
      (cs++ys.flatMap PD.cells).length<=l7.size/\aV c (l7.toList.take (cs++ys.flatMap PD.cells).length) (cs++ys.flatMap PD.cells)/\∀v∈l7.toList,v.oneCell'=true:=by
     refine⟨b,cap,_,hr,yBV _ _ cur _ e' (0,0) e2,by simpa using hcr.trans e3,e4,hpos,?_,?_,NU e8 b4 _ _⟩
     .rw[yAa,<-b6.1,yCq,hcr];exact hfit
     .show aV c (List.take _ (List.take (n*i.size) cur.toList++fly++List.drop (n*i.size+fly.length) cur.toList)) _
      rw[show(cs++ys.flatMap PD.cells).length=(List.take (n*i.size) cur.toList++fly).length by
       rw[yAa,yAa,b6.1,yAt,hn];have:cs.length<=cur.toList.length:=by simpa using e6
       omega]
      rw[yCr,hn];exact e7.append b6
    refine⟨.slice (some ⟨b,0,none⟩) (n+ys.length) cap,_,hrun,c.put _ id (c.ρ id) (.row e' i.size (fO+1) (cs++ys.flatMap PD.cells)),rfl,rfl,Sr.putRow hs hp.1 hq (yCs _) (λh=>rfl) ⟨rfl,rfl,rfl,Ai⟩ hk (.inl rfl) hall,
     Nx.putRow hs hp.1 hq hfl (yCs _) (λh=>rfl) ⟨rfl,rfl,rfl,Ai⟩ hk (.inl rfl),?_,λi hi=>.inl hi⟩
    refine .aR _ _ _ _ _ _ _ ⟨hp.1,λe0 DZ v1 BW hq1=>?_⟩ hroom h2;exact jf
   .have hcut:(cur.toList.take cs.length).length=n*i.size:=by
     rw[yAt,<-hn];have:n*i.size<=cur.toList.length:=by rw[hn];simpa using e6
     omega
    obtain⟨C2,JN,w',r,g1,g2,g3,g4,g5,g6,rest,g7⟩:=hS.grow (yCY hyp) (some ⟨b,0,none⟩) n cap (cur.toList.take cs.length) (λh=>Ap) hcut (λj v hj=>by
      refine⟨_,rfl,?_⟩;rw[tJ];simp only[World.cell?,e2];rw[yAv]at hj;split at hj
      .simpa using hj
      .cases hj) (λv hv=>e8 v (yAy hv)) Ah hmax hby
    have hbk:∀b0,bA (.slice (some ⟨c.w.heap.size,0,none⟩) 0 C2)=some b0->c.w.heap.size<=b0:=λb hb=>En
    have hlen:(cs++ys.flatMap PD.cells).length=(cur.toList.take cs.length++fly).length:=by rw[yAa,yAa,<-b6.1,hcut,hn]
    have hall:∃b0 C0 l7,Value.slice (some ⟨c.w.heap.size,0,none⟩) 0 C2=.slice (some ⟨b0,0,none⟩) 0 C0/\w'.heap[b0]?=some (.cells l7 e' (0,0))/\l7.size=C0*i.size/\C0<=maxLen/\0<i.size /\
      (cs++ys.flatMap PD.cells).length<=l7.size/\aV c (l7.toList.take (cs++ys.flatMap PD.cells).length) (cs++ys.flatMap PD.cells)/\∀v∈l7.toList,v.oneCell'=true:=by
     refine⟨c.w.heap.size,C2,JN,rfl,g2,g3,g5,hpos,?_,?_,g6⟩
     .rw[hlen];have:=yAK List.length g7;exact qv
     .rw[hlen,g7,yCr];exact e7.append b6
    have hk:∀k,k<c.w.heap.size->bA (c.ρ id)≠some k->w'.heap[k]?=c.w.heap[k]?:=λk hk _=>g1.block k hk Ai
    have h0:w'.os=c.w.os/\w'.tape=c.w.tape/\w'.output=c.w.output/\c.w.heap.size<=w'.heap.size:=⟨g1.os,g1.tape,g1.output,g1.size⟩;refine⟨_,w',r,c.put w' id (.slice (some ⟨c.w.heap.size,0,none⟩) 0 C2) (.row e' i.size (fO+1) (cs++ys.flatMap PD.cells)),rfl,rfl,Sr.putRow hs hp.1 hq (yCs _) (λh=>Ah) h0 hk (.inr hbk) hall,
     Nx.putRow hs hp.1 hq hfl (yCs _) (λh=>Ah) h0 hk (.inr hbk),?_,λi hi=>.inl hi⟩
    refine .aR _ _ _ _ _ _ _ ⟨hp.1,λe0 DZ v1 BW hq1=>?_⟩ g4 g5;exact jq
 .cases h
theorem aIA(hs:Sr c){fn:Nat}{t:TypeId}{s x p:PD}{σ':Gb}(h:fR P fn fl c.σ t s x=some (p,σ')){vs vx:Value}(hvs:VR c vs s)(hvx:VR c vx x)(ty:TypeId) :
  ∃v w',(Builtin.append_ #[t,t] ty #[vs,vx]).run P c.w=.ok v w'/\Leaves fl c p σ' v w':=by
 refine aIK hs h hvs λe i z sz' ys hu hw hi hz hzs hpos hz1 GP=>?_
 obtain⟨B,cx,fly,rfl,b1,b2,b3,b4,b5,b6⟩:=aIG hs hw hvx;have hly:fly.length=ys.length*i.size:=by
  rcases GP with h0|h0
  .rw[b3,h0];simp
  .rw[b3,h0]
 refine⟨fly,hly,b4,b6,λh0 A n cap hn=>?_,λhm A n cap flx hA hlx hx JK hcap hmax hby=>aIH hu hi hz hzs hpos hz1 hA hlx hx hly b5 JK b4 hm hcap hmax hby,λb off n cap hroom=>aII hu hi hly b5 hroom⟩;have hfy:fly=[]:=yAf (by rw[hly,h0];simp);subst hfy;have hfy:(Builtin.firstCells i.size 0 (.slice B 0 cx)).run P c.w=.ok #[] c.w:=by
  cases B<;>simp[Builtin.firstCells,loadCells,loadCellsFrom]
 rw[h0];exact ri
theorem aID(hs:Sr c){n:Nat}{t u:TypeId}{s p:PD}{m:Int}{σ':Gb}(hst:P.underlying u=some (.int .i64))(h:NB P n c.σ t s m=some (p,σ')){vs:Value}(hvs:VR c vs s)(ty:TypeId) :
  ∃v w',(Builtin.append_ #[t,u] ty #[vs,.int .i64 m]).run P c.w=.ok v w'/\Leaves fl c p σ' v w':=by
 unfold NB at h;cases h
theorem aIv(hs:Sr c){t:TypeId}{s:PD}{σ':Gb}(h:S5 P fl c.σ t s=some σ'){vs:Value}(hvs:VR c vs s)(ty:TypeId) :
  ∃v w',(Builtin.clear_ #[t] ty #[vs]).run P c.w=.ok v w'/\Leaves fl c (.aI []) σ' v w':=by
 unfold S5 at h;cases h
theorem aIw(hs:Sr c){dt st:TypeId}{d x p:PD}{σ':Gb}(h:S6 P fl c.σ dt st d x=some (p,σ')){vd vx:Value}(hd:VR c vd d)(hx:VR c vx x)(ty:TypeId) :
  ∃v w',(Builtin.copy_ #[dt,st] ty #[vd,vx]).run P c.w=.ok v w'/\Leaves fl c p σ' v w':=by
 unfold S6 at h;cases h
theorem bytes_beq(a b:List UInt8):(ByteArray.mk a.toArray==ByteArray.mk b.toArray)=(a==b):=by
 have h:(ByteArray.mk a.toArray==ByteArray.mk b.toArray)=(a.toArray==b.toArray):=rfl;rw[h];simp
def JO(d:TypeDesc)(k:PD):Prop:=(d=.string/\∃s,k=.str s)\/∃k0 n,d=.int k0/\k=.int k0 n
theorem aBz{kt:TypeId}{k:PD}(h:GQ P kt k=true):∃d,P.underlying kt=some d/\JO d k:=by
 unfold GQ at h;split at h
 .rename_i s hu;exact⟨_,hu,.inl ⟨rfl,_,rfl⟩⟩
 .rename_i k0 k1 n hu;simp only[yCg]at h;subst h;exact⟨_,hu,.inr ⟨_,_,rfl,rfl⟩⟩
 .cases h
theorem aBA{d:TypeDesc}{k q:PD}(hd:JO d k){vk vq:Value}(hk:VR c vk k)(hq:VR c vq q){b:Bool}(h:D6 k q=some b):Instr.sameNow d vk vq=some b/\(b=true->vk=vq):=by
 rcases hd with⟨rfl,s,rfl⟩ | ⟨k0,n,rfl,rfl⟩
 .rw[hk.sI];cases q<;>simp only[D6,reduceCtorEq]at h
  rw[hq.sI];simp only[yAb]at h;subst h;refine⟨by simp only[Instr.sameNow,bytes_beq],λh=>?_⟩;rw[eq_of_beq h]
 .rw[hk.pL];cases q<;>simp only[D6,reduceCtorEq]at h
  rw[hq.pL];split at h
  .rename_i hkk;subst hkk;simp only[yAb]at h;subst h;refine⟨by simp[Instr.sameNow],λh=>?_⟩;rw[eq_of_beq h]
  .cases h
theorem aV.tail{v:Value}{vs:Ge}{d:PD}{ds:Gc}(h:aV c (v::vs) (d::ds)):aV c vs ds:=⟨by have:=h.1;simpa using this,λi u x a b=>h.2 (i+1) u x Cy Cz⟩
theorem JP{d:TypeDesc}{k:PD}(hd:JO d k){vk:Value}(hk:VR c vk k):∀(ents:List MapEntry) (ms:List (PD×PD)) (i:Nat) (r:Option (Nat×PD)),aV c (ents.map MapEntry.key) (ms.map Prod.fst)->aV c (ents.map MapEntry.val) (ms.map Prod.snd)->vZ k ms i=some r ->
  match r with
  |some (j,v)=>∃en,i<=j/\ents[j-i]?=some en/\VR c en.val v/\en.key=vk/\Instr.findNow d vk ents i=some (some (j,en.val))
  |none=>Instr.findNow d vk ents i=some none
 | [],[],i,r,_,_,h=>by
   simp only[vZ,yAb]at h;subst h;rfl
 | [],_::_,_,_,h,_,_=>by have:=h.1;simp at this
 |_::_,[],_,_,h,_,_=>by have:=h.1;simp at this
 |en::ents,m::ms,i,r,h1,h2,h=>by
  have hk0:VR c en.key m.1:=h1.2 0 _ _ rfl rfl;have iN:VR c en.val m.2:=h2.2 0 _ _ rfl rfl;unfold vZ at h;split at h
  .rename_i he;simp only[yAb]at h;subst h;obtain⟨q1,q2⟩:=aBA hd hk hk0 he;refine⟨en,yAk _,Ai,iN,(q2 rfl).symm,?_⟩;simp[Instr.findNow,q1]
  .rename_i he;obtain⟨q1,_⟩:=aBA hd hk hk0 he;have ih:=JP hd hk ents ms (i+1) r h1.tail h2.tail h;cases r with
   |none=>
    simp only at ih ⊢;simp[Instr.findNow,q1,ih]
   |some jv=>
    obtain⟨j,v⟩:=jv;simp only at ih ⊢;obtain⟨en',g1,g2,g3,g4,g5⟩:=ih;refine⟨en',Ah,?_,g3,g4,?_⟩
    .rw[show j-i=(j-(i+1))+1 by omega];simpa using g2
    .simp[Instr.findNow,q1,g5]
  .cases h
theorem JQ{w:World}{kt:TypeId}{d:TypeDesc}{k:PD}(hu:P.underlying kt=some d)(hd:JO d k){vk:Value}(hk:VR c vk k)(e:Bool):(Instr.checkKey e 10000 kt vk).run P w=.ok () w:=by
 rcases hd with⟨rfl,s,rfl⟩ | ⟨k0,n,rfl,rfl⟩
 .rw[hk.sI];exact so
 .rw[hk.pL];exact so
theorem JR{w:World}{kt:TypeId}{d:TypeDesc}{vk:Value}{l:List MapEntry}{a:Option (Nat×Value)}(hd:P.underlying kt=some d)(h:Instr.findNow d vk l 0=some a):(Instr.findKey kt vk l).run P w=.ok a w:=by
 simp[Instr.findKey,yAM hd,Result.andThen,h]
theorem NV{w:World}{r:Nat}{es:Array MapEntry}{clock:Nat}(hb:w.heap[r]?=some (.map es clock)):(getObj r).run P w=.ok (.map es clock) w:=by simp[getObj,Sem.run,hb]
theorem aBB{w:World}{r:Nat}{es:Array MapEntry}{clock:Nat}(o:Obj)(hb:w.heap[r]?=some (.map es clock)):(setObj r o).run P w=.ok () (w.putObj r o):=by simp[setObj,Sem.run,hb,World.putObj]
theorem aIL{d:TypeDesc}{k:PD}(hd:JO d k){vk:Value}(hk:VR c vk k)(w:World):(Instr.keyThatStays vk vk).run P w=.ok vk w:=by
 have:Instr.sameBits 10000 vk vk=true:=by
  rcases hd with⟨rfl,s,rfl⟩ | ⟨k0,n,rfl,rfl⟩
  .rw[hk.sI];simp only[Instr.sameBits,bytes_beq];simp
  .rw[hk.pL];simp[Instr.sameBits]
 simp[Instr.keyThatStays,this]
theorem aBC(hs:Sr c){id:Nat}{ms:List (PD×PD)}(hq:c.σ[id]?=some (.map ms)){vx:Value}(hx:VR c vx (.fK id)):∃b ents clock,vx=.map (some b)/\c.D id/\c.ρ id=.map (some b)/\c.w.heap[b]?=some (.map ents clock)/\aV c (ents.toList.map MapEntry.key) (ms.map Prod.fst)/\aV c (ents.toList.map MapEntry.val) (ms.map Prod.snd):=by
 obtain⟨b,rfl,hd,_,hr⟩:=hx.aIM;obtain⟨b',ents,clock,e1,e2,e3,e4⟩:=hs.map id ms hd hq;rw[hr]at e1;simp only[Value.map.injEq,yAb]at e1;subst e1;exact⟨b,ents,clock,rfl,hd,hr,e2,e3,e4⟩
theorem aIy(hs:Sr c){t:TypeId}{x k p:PD}{ok:Bool}(h:GR P c.σ t x k ok=some p){vx vk:Value}(hx:VR c vx x)(hk:VR c vk k):∃v,(Instr.lookup t vx vk ok).run P c.w=.ok v c.w/\VR c v p:=by
 have two:∀ {v:Value} {q:PD} (b:Bool),VR c v q->VR c (if ok then .tuple #[v,.bool b]else v) (if ok then .aI [q,.bool b]else q):=fun {v q} b hv=>by
  cases ok
  .exact hv
  .exact .aI [v,.bool b] [q,.bool b] rfl (λi u d h1 h2=>by
    match i with
    |0=>simp at h1 h2;subst h1;subst h2;exact hv
    |1=>simp at h1 h2;subst h1;subst h2;exact .bool b
    |i+2=>simp at h1)
 unfold GR at h;split at h
 rotate_left
 .cases h
 rename_i kt e hu;split at h
 rotate_left
 .cases h
 rename_i hki;obtain⟨d,hkt,hd⟩:=aBz hki;split at h
 .rename_i id;split at h
  rotate_left
  .cases h
  rename_i ms hq;obtain⟨b,ents,clock,rfl,_,_,e2,e3,e4⟩:=aBC hs hq hx;split at h
  .rename_i j v hf;simp only[yAb]at h;subst h;obtain⟨en,_,_,g3,_,g5⟩:=JP hd hk _ _ 0 _ e3 e4 hf;refine⟨_,?_,two true g3⟩;simp[Instr.lookup,yAM hu,NV e2,JQ hkt hd hk,JR hkt g5]
  .rename_i hf;split at h
   .rename_i z hz;simp only[yAb]at h;subst h;obtain⟨zv,i,hi,hzv,hzr⟩:=D3 (c:=c) hz;have g5:=JP hd hk _ _ 0 _ e3 e4 hf;have JS:(zeroValue e).run P c.w=.ok zv c.w:=Ei;refine⟨_,?_,two false hzr⟩;simp[Instr.lookup,yAM hu,NV e2,JQ hkt hd hk,JR hkt g5,JS]
   .cases h
  .cases h
 .split at h
  .rename_i z hz;simp only[yAb]at h;subst h;have hvx:vx=.map none:=by cases hx;rfl
   subst hvx;obtain⟨zv,i,hi,hzv,hzr⟩:=D3 (c:=c) hz;have JS:(zeroValue e).run P c.w=.ok zv c.w:=Ei;have g5:Instr.findNow d vk [] 0=some none:=rfl;refine⟨_,?_,two false hzr⟩;simp[Instr.lookup,yAM hu,JQ hkt hd hk,JR hkt g5,JS]
  .cases h
 .cases h
theorem aV.set{vs:Ge}{ds:Gc}(h:aV c vs ds){v:Value}{p:PD}(hv:VR c v p)(j:Nat):aV c (vs.set j v) (ds.set j p):=by
 refine⟨by simp[h.1],λi u d h1 h2=>?_⟩;rw[yCT]at h1 h2;split at h1
 .rename_i e;rw[yAJ e]at h2;split at h1
  .split at h2
   .simp only[yAb]at h1 h2;subst h1;subst h2;exact hv
   .cases h2
  .cases h1
 .rename_i e;rw[yAI e]at h2;exact h.2 i u d h1 h2
theorem aIz(hs:Sr c){t:TypeId}{x k v:PD}{σ':Gb}(h:GS P fl c.σ t x k v=some σ'){vx vk vv:Value}(hx:VR c vx x)(hk:VR c vk k)(hv:VR c vv v) :
  ∃w',(Instr.mapUpdate t vx vk vv).run P c.w=.ok () w'/\Leaves fl c (.aI []) σ' undef w':=by
 unfold GS at h;split at h
 rotate_left
 .cases h
 rename_i kt e hu;split at h
 rotate_left
 .cases h
 rename_i hki;obtain⟨d,hkt,hd⟩:=aBz hki;split at h
 rotate_left
 .cases h
 rename_i id;split at h
 rotate_left
 .cases h
 rename_i hfl;split at h
 rotate_left
 .cases h
 rename_i ms hq;obtain⟨b,ents,clock,rfl,hD,hr,e2,e3,e4⟩:=aBC hs hq hx;have hb:bA (c.ρ id)=some b:=Cb;split at h
 .rename_i j v0 hf;simp only[yAb]at h;subst h;obtain⟨en,_,g2,g3,g4,g5⟩:=JP hd hk _ _ 0 _ e3 e4 hf;simp only[yCW]at g2;subst g4;have g2':ents[j]?=some en:=Cl;have hst:(Instr.mapUpdate t (.map (some b)) en.key vv).run P c.w=.ok () (c.w.putObj b (.map (ents.modify j λe=>{ e with key:=en.key,val:=vv }) clock)):=by
   simp[Instr.mapUpdate,yAM hu,NV e2,JQ hkt hd hk,JR hkt g5,g2',aIL hd hk,aBB _ e2]
  have hkeys:((ents.modify j λe=>{ e with key:=en.key,val:=vv }).toList.map MapEntry.key)=(ents.toList.map MapEntry.key).set j en.key:=by
   exact fk
  have hvals:((ents.modify j λe=>{ e with key:=en.key,val:=vv }).toList.map MapEntry.val)=(ents.toList.map MapEntry.val).set j vv:=by
   exact fk
  refine⟨_,hst,_,rfl,rfl,Sr.uR (o':=.map (ms.set j (k,v))) hs hD hq trivial trivial hb e2 Ai ⟨⟨_,_,rfl,?_,?_⟩,hr⟩,Nx.uR hs hD hq trivial trivial hb hfl e2 Ai,JT _,λi hi=>.inl hi⟩
  .rw[hkeys,yCK];exact e3.set hk j
  .rw[hvals,yCK];exact e4.set hv j
 .rename_i hf;simp only[yAb]at h;subst h;have g5:=JP hd hk _ _ 0 _ e3 e4 hf;have hst:(Instr.mapUpdate t (.map (some b)) vk vv).run P c.w=.ok () (c.w.putObj b (.map (ents.push { key:=vk,val:=vv,born:=clock }) (clock+1))):=by
   simp[Instr.mapUpdate,yAM hu,NV e2,JQ hkt hd hk,JR hkt g5,aBB _ e2]
  have one:∀ {v:Value} {p:PD},VR c v p->aV c [v] [p]:=λh=>⟨rfl,λi u d h1 h2=>by
   match i with
   |0=>simp at h1 h2;subst h1;subst h2;exact h
   |i+1=>simp at h1⟩
  refine⟨_,hst,_,rfl,rfl,Sr.uR (o':=.map (ms++[(k,v)])) hs hD hq trivial trivial hb e2 Ai ⟨⟨_,_,rfl,?_,?_⟩,hr⟩,Nx.uR hs hD hq trivial trivial hb hfl e2 Ai,JT _,λi hi=>.inl hi⟩
  .simp only[Array.toList_push,yAH];exact e3.append (one hk)
  .simp only[Array.toList_push,yAH];exact e4.append (one hv)
 .cases h
theorem aIx(hs:Sr c)(t:TypeId):∃v w',(Instr.makeMap t none).run P c.w=.ok v w'/\Leaves fl c (.fK c.σ.length) (c.σ++[.map []]) v w':=by
 have hbk:∀b,bA (.map (some c.w.heap.size))=some b->c.w.heap.size<=b/\b<(c.w.alloc (.map #[] 0)).heap.size:=λb hb=>by
  simp[bA]at hb;subst hb;simp
 refine⟨.map (some c.w.heap.size),c.w.alloc (.map #[] 0),rfl,c.push (c.w.alloc (.map #[] 0)) (.map (some c.w.heap.size)) (.map []),rfl,rfl,?_,Nx.push hs (xS _ _) (λb hb=>(hbk b hb).1),?_,?_⟩
 .exact Sr.push hs (xS _ _) hbk ⟨_,#[],0,rfl,yBZ _ _,⟨rfl,Ai⟩,⟨rfl,Ai⟩⟩
 .exact .fK _ _ (.inr rfl) (by rw[gV.1];trivial) gV.2.1
 .exact dj
end
end
section
open Go.RowKit
section
variable{P:Program}{c:Cx}{fl:Nat}
def aBx(P:Program)(o:Oper)(a:Act)(w:World)(v:Value)(w':World):Prop:=
 (execOp a.eval o).run P w=.ok (.value v) w'\/((execOp a.eval o).run P w=.ok .skip w'/\v=undef)
theorem aIo(hs:Sr c)(hX:Xw fl c){a:Act}{fr:Gc}(hf:FR c a fr){o:Oper}{p:PD}{σ':Gb}(h:dE P fl fr c.σ o.op=some (p,σ')) :
  ∃v w',aBx P o a c.w v w'/\Leaves fl c p σ' v w':=by
 obtain⟨dst,op,ty,pos,after,guard⟩:=o;simp only at h;unfold dE at h;split at h
 .rename_i t x;split at h
  .rename_i pa h1;split at h
   .rename_i q hq;simp only[yAb,yAc]at h;obtain⟨rfl,rfl⟩:=h;obtain⟨v,r,hv⟩:=aA8 hs hq (eC hf h1);exact jg
   .exact ak
  .exact ak
 .rename_i t x y;split at h
  .rename_i pa pb h1 h2;split at h
   .rename_i s' hs';simp only[yAb,yAc]at h;obtain⟨rfl,rfl⟩:=h;obtain⟨w',r,hl⟩:=aIp hs hs' (eC hf h1) (eC hf h2);exact⟨undef,w',.inr ⟨Fj,rfl⟩,hl⟩
   .exact ak
  .exact ak
 .rename_i t;split at h
  .rename_i q hq;split at h
   .rename_i hpl;simp only[yAb,yAc]at h;obtain⟨rfl,rfl⟩:=h;obtain⟨zv,i,hi,hzv,hzr⟩:=D3 (c:=c) hq;obtain⟨r,hl⟩:=SN (P:=P) (fl:=fl) hs (NI hq hi hzv t) (aV.xT hzr.cells hpl) t (λt' ds e=>NJ hzr e);refine⟨_,_,.inl ?_,hl⟩;simp[execOp,Instr.alloc,zeroValue,typeInfo,hi,hzv,r]
   .exact ak
  .exact ak
 .rename_i t x;split at h
  .rename_i q hq;split at h
   .rename_i hpl;simp only[yAb,yAc]at h;obtain⟨rfl,rfl⟩:=h;obtain⟨r,hl⟩:=SN (P:=P) (fl:=fl) hs (eC hf hq).cells (aV.xT (eC hf hq).cells hpl) t (λt' ds e=>(by have:=eC hf hq;rw[e]at this;exact this.aIq.elim));refine⟨_,_,.inl ?_,hl⟩;simp[execOp,Instr.box,r]
   .exact ak
  .exact ak
 .rename_i t len parts;split at h
  .rename_i ps h1;split at h
   .rename_i q hq;simp only[yAb,yAc]at h;obtain⟨rfl,rfl⟩:=h;obtain⟨a1,a2⟩:=NQ hf h1;obtain⟨v,w',r,hl⟩:=aIr (fl:=fl) hs (vparts:=parts.toList.map λq=>(q.1,a.eval q.2)) hq (by simpa using a1) (λi jv jp h3 h4=>by
     rw[yAo]at h4;cases hx:ps[i]? with
     |none=>rw[hx]at h4;simp at h4
     |some x=>
      rw[hx]at h4;simp only[yAC,yAb]at h4;subst h4;exact⟨(a2 i jv x h3 hx).1,(a2 i jv x h3 hx).2.strip⟩)
    refine⟨v,w',.inl ?_,hl⟩;have e:(Array.map (λx=>match x with|(i,x)=>(i,a.eval x)) parts)=(parts.toList.map λq=>(q.1,a.eval q.2)).toArray:=Cf;simp only[execOp,yAZ];rw[e,r];simp
   .exact ak
  .exact ak
 .rename_i s d x;split at h
  .split at h
   .rename_i q hq;split at h
    .rename_i r hr;simp only[yAb,yAc]at h;obtain⟨rfl,rfl⟩:=h;obtain⟨v,w',r,hl⟩:=aIs (fl:=fl) hs hr (eC hf hq);exact⟨v,w',.inl Fj,hl⟩
    .split at h
     .rename_i r hr;simp only[yAb,yAc]at h;obtain⟨rfl,rfl⟩:=h;obtain⟨v,r,hv⟩:=aIt hs hr (eC hf hq);exact jg
     .exact ak
   .exact ak
  .exact ak
 .rename_i t l k;split at h
  .rename_i e l' k' hu h1 h2;have hl:∃kl,a.eval l=.int kl (l':Int):=by
    cases hx:aZ fr l with
    |none=>rw[hx]at h1;cases h1
    |some q=>
     rw[hx]at h1;obtain⟨kl,zl,e1,e2,e3⟩:=D4 h1 (eC hf hx);exact⟨kl,by rw[e1,<-e3];congr 1;omega⟩
   have hk:∃kk,a.eval k=.int kk (k':Int):=by
    cases hx:aZ fr k with
    |none=>rw[hx]at h2;cases h2
    |some q=>
     rw[hx]at h2;obtain⟨kl,zl,e1,e2,e3⟩:=D4 h2 (eC hf hx);exact⟨kl,by rw[e1,<-e3];congr 1;omega⟩
   obtain⟨kl,hl⟩:=hl;obtain⟨kk,hk⟩:=hk;obtain⟨v,w',r,hlv⟩:=aIu (fl:=fl) hs hu h kl kk;exact⟨v,w',.inl (by simp[execOp,hl,hk,r]),hlv⟩
  .exact ak
 .rename_i args ts;split at h
  .rename_i s t h1 h2;split at h
   .rename_i s' hs';simp only[yAb,yAc]at h;obtain⟨rfl,rfl⟩:=h;have hv:=sH hf h1;have hvl:=hv.1;obtain⟨args⟩:=args;obtain⟨ts⟩:=ts;simp only at h1 hv hvl h2
    match args,hv,hvl with
    | [x1],hv,_=>
      subst h2;obtain⟨v,w',r,hl⟩:=aIv (fl:=fl) hs hs' (hv.2 0 _ _ rfl rfl) ty;exact ep
   .exact ak
  .exact ak
 .rename_i args ts;split at h
  .rename_i d x t t' h1 h2;have hv:=sH hf h1;have hvl:=hv.1;obtain⟨args⟩:=args;obtain⟨ts⟩:=ts;simp only at h1 hv hvl h2
   match args,hv,hvl with
   | [x1,x2],hv,_=>
     subst h2;obtain⟨v,w',r,hl⟩:=aIw (fl:=fl) hs h (hv.2 0 _ _ rfl rfl) (hv.2 1 _ _ rfl rfl) ty;exact ep
  .exact ak
 .rename_i t;split at h
  .simp only[yAb,yAc]at h;obtain⟨rfl,rfl⟩:=h;obtain⟨v,w',r,hl⟩:=aIx (P:=P) (fl:=fl) hs t;exact⟨v,w',.inl Fj,hl⟩
  .exact ak
 .rename_i t x k ok;split at h
  .rename_i m k' h1 h2;split at h
   .rename_i q hq;simp only[yAb,yAc]at h;obtain⟨rfl,rfl⟩:=h;obtain⟨v,r,hv⟩:=aIy hs hq (eC hf h1) (eC hf h2);exact jg
   .exact ak
  .exact ak
 .rename_i t x k v;split at h
  .rename_i m k' v' h1 h2 h3;split at h
   .rename_i s' hs';simp only[yAb,yAc]at h;obtain⟨rfl,rfl⟩:=h;obtain⟨w',r,hl⟩:=aIz (fl:=fl) hs hs' (eC hf h1) (eC hf h2) (eC hf h3);exact⟨undef,w',.inr ⟨Fj,rfl⟩,hl⟩
   .exact ak
  .exact ak
 .rename_i args ts;split at h
  .rename_i s x t t' h1 h2;split at h
   .rename_i htt;subst htt;have hv:=sH hf h1;have hvl:=hv.1;obtain⟨args⟩:=args;obtain⟨ts⟩:=ts;simp only at h1 hv hvl h2
    match args,hv,hvl with
    | [x1,x2],hv,_=>
      subst h2;split at h
      .rename_i q hq;simp only[yAb]at h;subst h;obtain⟨v,w',r,hl⟩:=aIA (fl:=fl) hs hq (hv.2 0 _ _ rfl rfl) (hv.2 1 _ _ rfl rfl) ty;exact ep
      .obtain⟨v,w',r,hl⟩:=aIB hs hX h (hv.2 0 _ _ rfl rfl) (hv.2 1 _ _ rfl rfl).strip ty;exact ep
   .split at h
    .rename_i l hst;split at h
     .rename_i hb;have hv:=sH hf h1;have hvl:=hv.1;obtain⟨args⟩:=args;obtain⟨ts⟩:=ts;simp only at h1 hv hvl h2
      match args,hv,hvl with
      | [x1,x2],hv,_=>
        subst h2;have hx2:=(hv.2 1 _ _ rfl rfl).sI;obtain⟨v,w',r,hl⟩:=aIC hs hX hst hb h (hv.2 0 _ _ rfl rfl) ty;exact mu
     .exact ak
    .rename_i m hst;have hv:=sH hf h1;have hvl:=hv.1;obtain⟨args⟩:=args;obtain⟨ts⟩:=ts;simp only at h1 hv hvl h2
     match args,hv,hvl with
     | [x1,x2],hv,_=>
       subst h2;have hx2:=(hv.2 1 _ _ rfl rfl).pL;obtain⟨v,w',r,hl⟩:=aID (fl:=fl) hs hst h (hv.2 0 _ _ rfl rfl) ty;exact mu
    .exact ak
  .exact ak
 .exact ak
theorem aIj(hs:Sr c)(hX:Xw fl c){a:Act}{fr:Gc}(hf:FR c a fr){o:Oper}{p:PD}{σ':Gb}(h:pop P fl fr c.σ o.op=some (p,σ')) :
  ∃v w',aBx P o a c.w v w'/\Leaves fl c p σ' v w':=by
 unfold pop at h;split at h
 .rename_i q hq;simp only[yAb,yAc]at h;obtain⟨rfl,rfl⟩:=h;obtain⟨v,r,hv⟩:=aIE hf hq c.w;exact⟨v,c.w,.inl r,c,rfl,rfl,hs,.refl _ _,hv,λ_ h=>.inl h⟩
 .exact aIo hs hX hf h
theorem aIh{a:Act}{fr:Gc}(hf:FR c a fr){o:Oper}{f:FuncId}{ps:Gc}(h:gP fr o.op=some (.inl f,ps)){fn:Func}(hfn:P.funcs[f]?=some fn)(hb:fn.body.isSome=true)(hn:(fn.name== "runtime.NumGoroutine")=false) :
  ∃vs:List Value,(execOp a.eval o).run P c.w=.ok (.enter f vs.toArray) c.w/\aV c vs ps:=by
 obtain⟨dst,op,ty,pos,after,guard⟩:=o;simp only at h;unfold gP at h;split at h
 .rename_i g args ts;split at h
  .rename_i f' cap qs h1 h2;simp only[yAb,yAc,yDM]at h;obtain⟨rfl,rfl⟩:=h;obtain⟨cs,e,hcs⟩:=(eC hf h1).JD;have hv:=sH hf h2;refine⟨args.toList.map a.eval++cs,?_,hv.append hcs⟩;have hb':fn.body.isNone=false:=Ex;have e2:(#[]++args.map a.eval++cs.toArray)=(args.toList.map a.eval++cs).toArray:=Cf;exact ob
  .rename_i f' first qs h1 h2;simp only[yAb,yAc,yDM]at h;obtain⟨rfl,rfl⟩:=h;obtain⟨cs,e,hcs⟩:=(eC hf h1).aBu;have hv:=sH hf h2;refine⟨cs++args.toList.map a.eval,?_,hcs.append hv⟩;have hb':fn.body.isNone=false:=Ex;have e2:(cs.toArray++args.map a.eval++#[])=(cs++args.toList.map a.eval).toArray:=Cf;exact ob
  .exact ak
  .exact ak
 .exact ak
theorem VR.aIF{v:Value}{id:Nat}(h:VR c v (.yield id)):∃l,v=.func (.yield l) #[] #[]/\c.D id/\lI c.σ[id]?/\c.ρ id=.pointer (some ⟨l,0,none⟩):=by
 cases h with|yield _ l h1 h2 h3=>exact⟨l,rfl,h1,h2,h3⟩
theorem aIi{a:Act}{fr:Gc}(hf:FR c a fr){o:Oper}{id:Nat}{ps:Gc}(h:gP fr o.op=some (.inr id,ps)) :
  ∃(l:Nat) (vs:List Value),(∀w:World,(execOp a.eval o).run P w=(Instr.yield l vs.toArray).run P w)/\aV c vs ps/\c.D id/\c.ρ id=.pointer (some ⟨l,0,none⟩):=by
 obtain⟨dst,op,ty,pos,after,guard⟩:=o;simp only at h;unfold gP at h;split at h
 .rename_i g args ts;split at h
  .exact ak
  .exact ak
  .rename_i id' qs h1 h2;simp only[yAb,yAc,Sum.inr.injEq]at h;obtain⟨rfl,rfl⟩:=h;obtain⟨l,e,hd,hn,hr⟩:=(eC hf h1).aIF;have hv:=sH hf h2;refine⟨l,args.toList.map a.eval,λw=>?_,hv,hd,hr⟩;have e2:(#[]++args.map a.eval)=(args.toList.map a.eval).toArray:=Cf;simp only[execOp,resolve,e,Deferred.ofValue,yAZ,yBm,yBk,invoke,e2]
  .exact ak
 .exact ak
end
end
section
inductive PX where
 |normal
 |exit (id:Nat)
 |ret
def PX.JC:PX->Exit
 |.normal=>.normal
 |.exit id=>.exit id
 |.ret=>.ret
structure PO where
 x:PX
 fr:Gc
 ms:List Nat
 σ:Gb
abbrev dA:=Nat->FuncId ⊕ Nat->List PD->List aB->Option (PD×List aB)
abbrev tD:=Option Nat->Code->Nat->List PD->List Nat->List aB->Option PO
abbrev aE:=FuncId->Option (Nat->List PD->List aB->Option (PD×List aB))
def cT(P:Program)(call:dA)(fl:Nat)(fr:List PD)(σ:List aB)(op:Op):Option (PD×List aB):=
 match gP fr op with
 |some (tg,args)=>call fl tg args σ
 |none=>pop P fl fr σ op
def eF(P:Program)(call:dA)(fl:Nat)(ops:Array Oper):List Oper->List PD->List aB->Option (List PD×List aB)
 | [],fr,σ=>some (fr,σ)
 |o::rest,fr,σ=>
  if Region.wanted o (bR ops fr)then
   match cT P call fl fr σ o.op with
   |some (p,σ')=>eF P call fl ops rest (bE fr o.dst p) σ'
   |none=>none
  else eF P call fl ops rest (bE fr o.dst (.aI [])) σ
def NP(P:Program)(call:dA)(fl:Nat)(ops:Array Oper):List Oper->List PD->List aB->Option (List PD×List aB)
 | ⟨some d,.buildSlice t len parts,_,_,_,none⟩::⟨d2,.convert s t' (.tmp d'),_,_,_,none⟩::rest,fr,σ=>
   match P.underlying t with
   |some (.slice e)=>match P.underlying e with
    |some (.int .u8)=>if s=t/\t'=t/\d'=d/\d<fr.length then
      match p7 fr parts.toList with
      |some ps=>match uL P t len (ps.map λq=>(q.1,q.2.strip))with
       |some (.slice n xs .full)=>eF P call fl ops rest (bE (fr.set d (.slice n xs .full)) d2 (.slice n xs .full)) σ
       |_=>none
      |none=>none
     else none
    |_=>none
   |_=>none
 |_,_,_=>none
def BM(P:Program)(call:dA)(fl:Nat)(ops:Array Oper)(fr:List PD)(σ:List aB):Option (List PD×List aB):=
 match eF P call fl ops ops.toList fr σ with
 |some x=>some x
 |none=>NP P call fl ops ops.toList fr σ
def iF:Op->Bool
 |.convert s d _=>!DO s d
 |.move _|.assign _|.pick .. | .binOp .. | .unOp .. | .makeFunc .. | .slice .. | .fieldAddr .. | .field .. | .indexAddr .. | .index .. | .extract .. | .nilCheck _|.build ..=>true
 |.call { callee:=.builtin .len,.. } | .call { callee:=.builtin .min,.. } | .call { callee:=.builtin .max,.. }=>true
 |_=>false
def fB:Op->Bool
 |.load ..=>true
 |.convert s d _=>DO s d
 |_=>false
def dF:Op->Bool
 |.alloc _=>true
 |_=>false
def SW(t:TypeId)(a b:Operand):Bool:=match a,b with
 |.const (.int _ l),.const (.int _ k)=>decide (l=k)&&decide (0<l)&&!SU t
 |_,_=>false
def qB:Op->Bool
 |.buildSlice ..=>true
 |.makeSlice t a b=>SW t a b
 |_=>false
def iP:Op->Bool
 |.store ..=>true
 |_=>false
def eM:Op->Bool
 |.box ..=>true
 |.call { callee:=.value _,.. }=>true
 |.call { callee:=.builtin .append,.. }=>true
 |.call { callee:=.builtin .copy,.. }=>true
 |_=>false
def eG(o:Op):Bool:=iP o||eM o
def xO(acc:List Nat)(o:Oper):Nat:=
 o.after.toList.foldl (λs e=>if Region.binds .any e then s ||| 2^e.on ||| acc.getD e.on 0 else s) 0
def cN:List Oper->List Nat->List Nat
 | [],acc=>acc
 |o::r,acc=>cN r (acc++[xO acc o])
def fA(f:Op->Bool)(ops:List Oper)(i:Nat):Bool:=((ops[i]?).map λo=>f o.op).getD false
def loose(ms:List Nat)(i j:Nat):Bool:=!(ms.getD i 0).testBit j&&!(ms.getD j 0).testBit i
def kI(ops:List Oper)(ms:List Nat)(k:Nat):Bool:=
 (List.range ops.length).all λi=>!fA fB ops i||!loose ms i k
def aBr(ops:Array Oper)(i:Nat)(o:Oper):Bool:=
 (List.range ops.size).all λj=>j==i ||
  match ops[j]? with
  |none=>true
  |some oj=>match oj.dst with
   |none=>true
   |some d=>(o.dst != some d)&&(!(o.looksAt ops).contains d ||
     (if j<i then o.after.any (λe=>Region.binds .any e&&e.on==j)else oj.after.any (λe=>Region.binds .any e&&e.on==i)))
def vW(ops:Array Oper)(ms:List Nat):Bool:=
 Region.noSelect ops &&
 (List.range ops.size).all λi=>match ops[i]? with
  |none=>true
  |some o=>(iF o.op||fB o.op||dF o.op||qB o.op||eG o.op)&&aBr ops i o&&o.after.all (λe=>!Region.binds .any e||e.on<i) &&
    (!eG o.op||(List.range i).all λj=>!fA eG ops.toList j||(ms.getD i 0).testBit j)
def nQ(P:Program):List Oper->Option (List aB)
 | []=>some []
 |o::r=>match o.op with
  |.alloc t=>match eR P t,nQ P r with
    |some p,some l=>if p.cells.all PD.plain then some (.box (boxed t p)::l)else none
    |_,_=>none
  |_=>nQ P r
def fU:PD->Option Nat
 |.ptr id _=>some id
 |.dH id _ _=>some id
 |.dJ id _ _ _=>some id
 |_=>none
def lK(fr:List PD):Op->Option Nat
 |.load _ x=>match aZ fr x with|some a=>fU a|none=>none
 |.store _ x _=>match aZ fr x with|some a=>fU a|none=>none
 |.convert _ _ x=>match aZ fr x with|some a=>fU a|none=>none
 |_=>none
def l6(P:Program)(call:dA)(fl:Nat)(free:Bool)(k:Nat)(fr:List PD)(σ:List aB)(op:Op):Option (PD×List aB):=
 if iF op then(match eK P fr op with|some p=>some (p,σ)|none=>none)
 else if dF op then some (.ptr k 0,σ)
 else if eM op&&!free then
  match cT P call (max fl σ.length) fr σ op with
  |some (p,σ')=>some (p,σ++σ'.drop σ.length)
  |none=>none
 else if eM op then cT P call fl fr σ op
 else dE P fl fr σ op
structure TE where
 fr:Gc
 σ:Gb
 p:PD
 iZ:Option Nat
def eW(P:Program)(call:dA)(fl:Nat)(ops:Array Oper)(ms:List Nat):Nat->Nat->List Oper->List PD->List aB->Option (List TE×Gc×List aB)
 |_,_,[],fr,σ=>some ([],fr,σ)
 |i,k,o::rest,fr,σ=>
  let k':=if dF o.op then k+1 else k
  if Region.wanted o (bR ops fr)then
   match l6 P call fl (kI ops.toList ms i) k fr σ o.op with
   |some (p,σ')=>match eW P call fl ops ms (i+1) k' rest (bE fr o.dst p) σ' with
    |some (tr,fr',zS)=>some (⟨fr,σ,p,lK fr o.op⟩::tr,fr',zS)
    |none=>none
   |none=>none
  else match eW P call fl ops ms (i+1) k' rest (bE fr o.dst (.aI [])) σ with
   |some (tr,fr',zS)=>some (⟨fr,σ,.aI [],none⟩::tr,fr',zS)
   |none=>none
def pE(ops:List Oper)(ms:List Nat)(tr:List TE):Bool:=
 (List.range ops.length).all λk=>!fA iP ops k||(List.range ops.length).all λi=>!fA fB ops i||!loose ms i k ||
  match ((tr[i]?).bind TE.iZ),((tr[k]?).bind TE.iZ)with
  |some a,some b=>a != b
  |_,_=>true
def oV(P:Program)(call:dA)(fl:Nat)(ops:Array Oper)(fr:List PD)(σ:List aB):Option (List PD×List aB):=
 let ms:=cN ops.toList []
 if vW ops ms then
  match nQ P ops.toList with
  |some hs=>match eW P call fl ops ms 0 σ.length ops.toList fr (σ++hs)with
   |some (tr,fr',σ')=>if pE ops.toList ms tr then some (fr',σ')else none
   |none=>none
  |none=>none
 else none
def rB(P:Program)(call:dA)(fl:Nat)(ops:Array Oper):Nat->Nat->List Oper->List PD->List aB->Option (List TE×Gc×List aB)
 |_,_,[],fr,σ=>some ([],fr,σ)
 |i,k,o::rest,fr,σ=>
  let k':=if dF o.op then k+1 else k
  if Region.wanted o (bR ops fr)then
   match l6 P call fl true k fr σ o.op with
   |some (p,σ')=>match rB P call fl ops (i+1) k' rest (bE fr o.dst p) σ' with
    |some (tr,fr',zS)=>some (⟨fr,σ,p,lK fr o.op⟩::tr,fr',zS)
    |none=>none
   |none=>none
  else match rB P call fl ops (i+1) k' rest (bE fr o.dst (.aI [])) σ with
   |some (tr,fr',zS)=>some (⟨fr,σ,.aI [],none⟩::tr,fr',zS)
   |none=>none
def TE.at(tr:List TE)(uT:List aB)(j:Nat):List aB:=match tr[j]? with
 |some t=>t.σ
 |none=>uT
def aIn(ops:List Oper)(ms:List Nat)(tr:List TE)(uT:List aB):Prop:=
 ∀(k i id:Nat) (ok oi:Oper),ops[k]?=some ok->ops[i]?=some oi->eM ok.op=true->fB oi.op=true->loose ms i k=true->(tr[i]?).bind TE.iZ=some id ->
  (TE.at tr uT k).length<=(TE.at tr uT (k+1)).length/\(id<(TE.at tr uT k).length->(TE.at tr uT (k+1))[id]?=(TE.at tr uT k)[id]?)
open Classical in
def nS(P:Program)(call:dA)(fl:Nat)(ops:Array Oper)(fr:List PD)(σ:List aB):Option (List PD×List aB):=
 match oV P call fl ops fr σ with
 |some x=>some x
 |none=>if vW ops (cN ops.toList [])then
  match nQ P ops.toList with
  |some hs=>match rB P call fl ops 0 σ.length ops.toList fr (σ++hs)with
   |some (tr,fr',σ')=>if pE ops.toList (cN ops.toList []) tr=true/\aIn ops.toList (cN ops.toList []) tr σ' then some (fr',σ')else none
   |none=>none
  |none=>none
 else none
def BJ(P:Program)(fr:List PD)(σ:List aB):ResultVar->Option PD
 |.tmp t=>some (fr.getD t (.aI []))
 |.cell a t=>match fr.getD a (.aI [])with
   |.ptr id off=>p6 P σ t (.ptr id off)
   |_=>none
def xP(P:Program)(fr:List PD)(σ:List aB):List ResultVar->Option (List PD)
 | []=>some []
 |r::rs=>match BJ P fr σ r,xP P fr σ rs with
  |some p,some ps=>some (p::ps)
  |_,_=>none
def DR:List PD->PD
 | [p]=>p
 |ps=>.aI ps
def uP(fl:Nat):List Nat->List aB->Option (List aB)
 | [],σ=>some σ
 |m::ms,σ=>if fl<=m then(match σ[m]? with
  |some .mark=>uP fl ms (σ.set m .none)
  |_=>none)else none
def uM(fr:List PD):List Tmp->List PD->Gc
 |t::ts,p::ps=>uM (fr.set t p) ts ps
 |_,_=>fr
def F9(code:tD)(fl:Nat)(id:Nat)(args:List PD)(σ:List aB):Option (PD×List aB):=
 if fl<=id then
  match σ[id]? with
  |some (.loop .ready fr ps assign body)=>
   if args.length=ps.length then
    match code (some id) assign fl (uM fr ps args) [] σ with
    |some ⟨.normal,aS,ms1,σ1⟩=>
     match σ1[id]? with
     |some (.loop .ready fS GG GH GI)=>
      match code (some id) body fl aS ms1 (σ1.set id (.loop .busy fS GG GH GI))with
      |some ⟨x,_,_,σ2⟩=>
       match σ2[id]? with
       |some (.loop .busy xL vV xM xN)=>
        match x with
        |.normal=>some (.bool true,σ2.set id (.loop .ready xL vV xM xN))
        |.ret=>some (.bool false,σ2.set id (.loop (.done .ret) xL vV xM xN))
        |.exit k=>some (.bool false,σ2.set id (.loop (.done (.exit k)) xL vV xM xN))
       |_=>none
      |none=>none
     |_=>none
    |_=>none
   else none
  |_=>none
 else none
def cI(P:Program)(fl:Nat)(fn:Func)(r:PO):Option (PD×List aB):=
 match r.x with
 |.exit _=>none
 |_=>match uP fl r.ms r.σ with
  |some σ=>match xP P r.fr σ fn.results.toList with
   |some ps=>some (DR ps,σ)
   |none=>none
  |none=>none
def DW(P:Program)(code:tD)(fl:Nat)(f:FuncId)(args:List PD)(σ:List aB):Option (PD×List aB):=
 match P.funcs[f]? with
 |some fn=>match fn.body with
  |some c=>match code none c fl (args++List.replicate (fn.ntmps-args.length) (.aI [])) [] σ with
   |some r=>cI P fl fn r
   |none=>none
  |none=>none
 |none=>none
def qX(P:Program)(E:aE)(code:tD):dA
 |fl,.inl f,args,σ=>match E f with
  |some g=>g fl args σ
  |none=>DW P code fl f args σ
 |fl,.inr id,args,σ=>F9 code fl id args σ
def xI(id:Nat)(fr:List PD)(ms:List Nat)(σ:List aB):Option PO:=
 match σ[id]? with
 |some (.loop .ready _ _ _ _)=>some ⟨.normal,fr,ms,σ.set id .none⟩
 |some (.loop (.done .ret) _ _ _ _)=>some ⟨.ret,fr,ms,σ.set id .none⟩
 |some (.loop (.done (.exit k)) _ _ _ _)=>some ⟨.exit k,fr,ms,σ.set id .none⟩
 |_=>none
def GA(call:dA)(rd:Option Nat)(gf:FuncId)(cap:List PD)(ps:List Tmp)(assign body:Code)(fl:Nat)(fr:List PD)(ms:List Nat)(σ:List aB):Option PO:=
 if fl<=σ.length then
  match rd with
  |none=>match call fl (.inl gf) (.yield (σ.length+1)::cap) (σ++[.mark]++[.loop .ready fr ps assign body])with
   |some (_,σ2)=>xI (σ.length+1) fr (σ.length::ms) σ2
   |none=>none
  |some l=>match σ[l]? with
   |some (.loop _ _ _ _ _)=>match call fl (.inl gf) (.yield σ.length::cap) (σ++[.loop .ready fr ps assign body])with
    |some (_,σ2)=>xI σ.length fr ms σ2
    |none=>none
   |_=>none
 else none
def iO(P:Program)(E:aE):Nat->tD
 |0=>λ_ _ _ _ _ _=>none
 |n+1=>λrd c fl fr ms σ=>
  match c with
  |.skip=>some ⟨.normal,fr,ms,σ⟩
  |.region _ ops false=>match BM P (qX P E (iO P E n)) fl ops fr σ with
    |some (fr',σ')=>some ⟨.normal,fr',ms,σ'⟩
    |none=>none
  |.region _ ops true=>match nS P (qX P E (iO P E n)) fl ops fr σ with
    |some (fr',σ')=>some ⟨.normal,fr',ms,σ'⟩
    |none=>none
  |.seq x y=>match iO P E n rd x fl fr ms σ with
    |some ⟨.normal,fr',ms',σ'⟩=>iO P E n rd y fl fr' ms' σ'
    |r=>r
  |.cond g x y=>match aZ fr g with
    |some (.bool true)=>iO P E n rd x fl fr ms σ
    |some (.bool false)=>iO P E n rd y fl fr ms σ
    |_=>none
  |.block id b=>match iO P E n rd b fl fr ms σ with
    |some ⟨.exit k,fr',ms',σ'⟩=>some ⟨if k=id then .normal else .exit k,fr',ms',σ'⟩
    |r=>r
  |.loop b=>match iO P E n rd b fl fr ms σ with
    |some ⟨.normal,fr',ms',σ'⟩=>iO P E n rd (.loop b) fl fr' ms' σ'
    |r=>r
  |.rangeFunc g ps assign body=>match aZ fr g with
    |some (.func gf cap)=>GA (qX P E (iO P E n)) rd gf cap ps.toList assign body fl fr ms σ
    |_=>none
  |.exit id=>some ⟨.exit id,fr,ms,σ⟩
  |.ret=>some ⟨.ret,fr,ms,σ⟩
  |_=>none
def eN(P:Program)(E:aE)(n:Nat):dA:=qX P E (iO P E n)
end
section
open Go.RowKit
def D0(fl:Nat)(c:Cx)(p:PD)(σ':List aB):Ending->World->Prop
 |.returned v,w'=>Leaves fl c p σ' v w'
 |_,_=>False
structure Ok (F:Fence) (P:Program) (call:dA):Prop where
 fn:∀ {fl:Nat} {f:FuncId} {args:Gc} {c:Cx} {vs:Ge} {p:PD} {σ':Gb},call fl (.inl f) args c.σ=some (p,σ')->Sr c->Xw fl c->aV c vs args ->
  (∃fn,P.funcs[f]?=some fn/\fn.body.isSome=true)/\∀m,CallsIn F m P f vs.toArray c.w (D0 fl c p σ')
 round:∀ {fl id l:Nat} {args:Gc} {c:Cx} {vs:Ge} {p:PD} {σ':Gb},call fl (.inr id) args c.σ=some (p,σ')->Sr c->Xw fl c->aV c vs args->c.D id->c.ρ id=.pointer (some ⟨l,0,none⟩) ->
  ∃g tmps asg bd,(Instr.yield l vs.toArray).run P c.w=.ok (.round l g tmps asg bd) c.w/\∀m,RoundIn F m P l g tmps asg bd c.w (D0 fl c p σ')
structure Open (F:Fence) (P:Program):Prop where
 fn:∀f,F.fn f
 depth:F.depth=none
 name:∀(f:FuncId) fn,P.funcs[f]?=some fn->(fn.name== "runtime.NumGoroutine")=false
 alive:F.alive=false
section
variable{F:Fence}{P:Program}{call:dA}{c:Cx}{fl n:Nat}{Q:Exit->Act->World->Prop}
theorem Open.asks(hF:Open F P):F.depth.isSome=true->1<=n:=by rw[hF.depth];intro h;cases h
theorem aBg(hF:Open F P)(hc:Ok F P call)(hs:Sr c)(hX:Xw fl c){a:Act}{fr:Gc}(hf:FR c a fr){o:Oper}{p:PD}{σ':Gb}
  (h:cT P call fl fr c.σ o.op=some (p,σ')) {K:Act->World->Prop} (hK:∀v w',Leaves fl c p σ' v w'->K (a.put o.dst v) w'):o.wpIn F n P a c.w K Q:=by
 have hnd:∀d,o.op≠.defer d:=by
  intro d e;rw[e]at h;simp[cT,gP,pop,eK,dE]at h
 refine⟨λf _=>hF.fn f,?_⟩;rw[Oper.semAt_eq _ _ _ hnd];unfold cT at h;split at h
 .rename_i tg args htg;cases tg with
  |inl f=>
   obtain⟨vs0,aIg⟩:∃vs:List Value,aV c vs args:=by
    unfold gP at htg;split at htg
    .split at htg
     .rename_i g args' ts f' cap qs h1 h2;simp only[yAb,yAc,yDM]at htg;obtain⟨rfl,rfl⟩:=htg;obtain⟨cs,e,hcs⟩:=(eC hf h1).JD;exact⟨_,(sH hf h2).append hcs⟩
     .rename_i f' first qs h1 h2;simp only[yAb,yAc,yDM]at htg;obtain⟨rfl,rfl⟩:=htg;obtain⟨cs,e,hcs⟩:=(eC hf h1).aBu;exact⟨_,hcs.append (sH hf h2)⟩
     .simp at htg
     .simp at htg
    .simp at htg
   obtain⟨⟨fn,hfn,hb⟩,_⟩:=hc.fn h hs hX aIg;obtain⟨vs,r,hvs⟩:=aIh (P:=P) hf htg hfn hb (hF.name f fn hfn);rw[r];refine⟨hF.asks,yCE ((hc.fn h hs hX hvs).2 _) λe w'' he=>?_⟩;exact nq
  |inr id=>
   obtain⟨l,vs,r,hvs,hd,hr⟩:=aIi (P:=P) hf htg;obtain⟨g,tmps,asg,bd,ry,hround⟩:=hc.round h hs hX hvs hd hr;rw[r,ry];refine⟨hF.asks,RoundIn.mono (hround _) λe w'' he=>?_⟩;exact nq
 .obtain⟨v,w',hy,hl⟩:=aIj (P:=P) hs hX hf h;rcases hy with hy | ⟨hy,rfl⟩
  .rw[hy];exact hK v w' hl
  .rw[hy];exact hK undef w' hl
theorem FR.put{a:Act}{fr:Gc}(hf:FR c a fr){v:Value}{p:PD}(hv:VR c v p)(dst:Option Tmp):FR c (a.put dst v) (bE fr dst p):=by
 cases dst with
 |none=>exact hf
 |some d=>
  refine⟨⟨by simpa [Act.put,bE]using hf.1.1,λi u q h1 h2=>?_⟩,hf.2⟩;simp only[Act.put,bE,yE,yCT]at h1 h2
  by_cases e:d=i
  .subst e;simp only[yAL]at h1 h2;split at h1
   .split at h2
    .simp only[yAb]at h1 h2;subst h1 h2;exact hv
    .simp at h2
   .simp at h1
  .rw[yAI e]at h1 h2;exact hf.1.2 i u q h1 h2
theorem VR.undef(c:Cx):VR c undef (.aI []):=.aI [] [] rfl (λi v d h=>Br)
theorem VR.aBv{v:Value}{p:PD}(h:VR c v p)(b:Bool):v=.bool b↔p=.bool b:=by
 constructor
 .rintro rfl
  cases h with
  |bool=>rfl
  |fT _ h=>cases h
 .rintro rfl;cases h;rfl
theorem aIk{a:Act}{fr:Gc}(hf:FR c a fr)(ops:Array Oper)(j:Nat):yielded ops a.tmps j=bR ops fr j:=by
 unfold yielded bR;cases hd:(ops[j]?).bind (·.dst)with
 |none=>rfl
 |some d=>
  simp only[yCI];have hl:=hf.1.1;rcases yCh d fr.length with hlt|hge
  .have hlt':d<a.tmps.toList.length:=by rw[hl];exact hlt
   have e1:a.tmps[d]?=some (a.tmps.toList[d]):=by rw[<-yCG];exact yAh hlt'
   have e2:fr[d]?=some fr[d]:=yAh hlt;have hv:=hf.1.2 d _ _ (yAh hlt') e2;rw[e1,e2];cases hx:fr[d]with
   |bool b=>rw[hx]at hv;rw[(hv.aBv b).2 rfl]
   |_=>
    rw[hx]at hv;cases hy:a.tmps.toList[d]with
    |bool b=>rw[hy]at hv;have:=(hv.aBv b).1 rfl;cases this
    |_=>rfl
  .have e1:a.tmps[d]?=none:=by rw[<-yCG];exact yBB (by rw[hl];exact hge)
   rw[e1,yBB hge]
theorem aBf{a:Act}{fr:Gc}(hf:FR c a fr)(ops:Array Oper)(o:Oper):Region.wanted o (yielded ops a.tmps)=Region.wanted o (bR ops fr):=by
 have:yielded ops a.tmps=bR ops fr:=funext λj=>aIk hf ops j
 rw[this]
theorem aA2(hF:Open F P)(hc:Ok F P call){ops:Gg}:∀(l:List Oper) (i:Nat) (_:ops.toList.drop i=l) {c:Cx} (_:Sr c) (_:Xw fl c) {a:Act} {fr:Gc} (_:FR c a fr) {fr':Gc} {σ':Gb}
  (_:eF P call fl ops l fr c.σ=some (fr',σ'))
  (_:∀c' a',c'.σ=σ'->Sr c'->Nx fl c c'->FR c' a' fr'->a'.defers=a.defers->Q .normal a' c'.w),wpOpsIn F n P ops Q (List.range' i l.length) a c.w:=by
 intro l
 induction l with
 |nil=>
  intro i _ c hs hX a fr hf fr' σ' h hQ;simp only[eF,yAb,yAc]at h;obtain⟨rfl,rfl⟩:=h;exact hQ c a rfl hs (.refl _ _) hf rfl
 |cons o rest ih=>
  intro i hdrop c hs hX a fr hf fr' σ' h hQ;have hi:i<ops.toList.length:=by
   rcases yCh i ops.toList.length with h' | h'
   .exact h'
   .rw[yAs h']at hdrop;cases hdrop
  have ho:ops[i]?=some o:=by
   have:ops.toList[i]?=some o:=by
    have:=yAK List.head? hdrop;simpa [yCD]using this
   rw[<-yCG];exact this
  have xR:ops.toList.drop (i+1)=rest:=by
   rw[<-yBD,hdrop];rfl
  simp only[yAT,yDn,wpOpsIn,ho];rw[aBf hf];simp only[eF]at h;split at h
  .rename_i hw;rw[yAJ hw];split at h
   .rename_i p σ1 hst;refine aBg hF hc hs hX hf hst λv w' hl=>?_
    obtain⟨c',rfl,rfl,hs',nx,hv,_⟩:=hl;exact ih (i+1) xR hs' (hX.next hs nx) ((hf.mono nx).put hv _) h
     (λJJ pF e1 e2 e3 e4 e5=>hQ JJ pF e1 e2 (nx.trans e3) e4 (e5.trans (by cases o.dst<;>rfl)))
   .exact ak
  .rename_i hw;rw[yAI hw];refine⟨λf _=>hF.fn f,?_⟩;exact ih (i+1) xR hs hX (hf.put (VR.undef c) _) h
    (λJJ pF e1 e2 e3 e4 e5=>hQ JJ pF e1 e2 e3 e4 (e5.trans (by cases o.dst<;>rfl)))
theorem aHN(hF:Open F P)(hc:Ok F P call){ops:Gg}{c:Cx}(hs:Sr c)(hX:Xw fl c){a:Act}{fr:Gc}(hf:FR c a fr){fr':Gc}{σ':Gb}
  (h:NP P call fl ops ops.toList fr c.σ=some (fr',σ'))
  (hQ:∀c' a',c'.σ=σ'->Sr c'->Nx fl c c'->FR c' a' fr'->a'.defers=a.defers->Q .normal a' c'.w):wpOpsIn F n P ops Q (List.range' 0 ops.toList.length) a c.w:=by
 unfold NP at h;split at h
 .rename_i d t len parts ty1 pos1 ed1 d2 s t' d' ty2 pos2 ed2 rest hops;split at h
  .rename_i e hu;split at h
   .rename_i he;split at h
    .rename_i hcond;obtain⟨hst,htt,hdd,hdl⟩:=hcond;subst hst;subst htt;subst hdd;split at h
     .rename_i ps hps;split at h
      .rename_i m xs hnew;obtain⟨a1,a2⟩:=NQ hf hps;obtain⟨e',cells',uS,hrun,hv⟩:=aBw hs (vparts:=parts.toList.map λq=>(q.1,a.eval q.2)) hnew (by simpa using a1) (λi jv jp h3 h4=>by
        rw[yAo]at h4;cases hx:ps[i]? with
        |none=>rw[hx]at h4;simp at h4
        |some x=>
         rw[hx]at h4;simp only[yAC,yAb]at h4;subst h4;exact⟨(a2 i jv x h3 hx).1,(a2 i jv x h3 hx).2.strip⟩)
       obtain rfl:e=e':=by rw[hu]at uS;simpa using uS
       have hgr:=aIl c.w e cells';obtain⟨fz,hfz⟩:=aIm c.w e cells';have hvr:=hv _ fz hgr hfz;have hmk:=run_mark (P:=P) c.w cells' len len hu he;have nx:Nx fl c (c.at ((c.w.alloc (.cells cells' e)).freeze ⟨c.w.heap.size,cells'.size,none⟩ 1)):=Nx.grow hs hgr;have hs':=Sr.grow hs hgr;obtain⟨v,hvd⟩:∃v:Value,v=.slice (some ⟨c.w.heap.size,0,none⟩) len len:=⟨_,rfl⟩;rw[<-hvd]at hrun hvr hmk;have kY:=((hf.mono nx).put hvr (some d')).put hvr d2;have h0:ops[0]?=some ⟨some d',.buildSlice t' len parts,ty1,pos1,ed1,none⟩:=by rw[<-yCG,hops];rfl
       have h1:ops[1]?=some ⟨d2,.convert t' t' (.tmp d'),ty2,pos2,ed2,none⟩:=by rw[<-yCG,hops];rfl
       have hlen:ops.toList.length=rest.length+2:=by rw[hops];rfl
       rw[hlen,yDn,yDn];simp only[wpOpsIn,h0,h1,yAp];rw[yAJ (show Region.wanted _ _=true from rfl)];refine⟨λf _=>hF.fn f,?_⟩;rw[Oper.semAt_eq _ _ _ (by intro d e;cases e)];have earr:(Array.map (λx=>match x with|(i,x)=>(i,a.eval x)) parts)=(parts.toList.map λq=>(q.1,a.eval q.2)).toArray:=Cf;have oE:(execOp a.eval ⟨some d',.buildSlice t' len parts,ty1,pos1,ed1,none⟩).run P c.w=.ok (.value v) (c.w.alloc (.cells cells' e)):=by
        simp only[execOp,yAZ];rw[earr,hrun];simp
       rw[oE];simp only[Oper.uponIn,Region.wanted,yAL];refine⟨λf _=>hF.fn f,?_⟩;rw[Oper.semAt_eq _ _ _ (by intro d e;cases e)];have hdt:d'<a.tmps.size:=by
        have h9:a.tmps.toList.length=_:=hf.1.1;rw[yBj]at h9;rw[h9];exact hdl
       have hev:(a.put (some d') v).eval (.tmp d')=v:=by simp[Act.eval,Act.put,hdt]
       have jE:(execOp (a.put (some d') v).eval ⟨d2,.convert t' t' (.tmp d'),ty2,pos2,ed2,none⟩).run P (c.w.alloc (.cells cells' e))=.ok (.value v) ((c.w.alloc (.cells cells' e)).freeze ⟨c.w.heap.size,cells'.size,none⟩ 1):=by
        simp only[execOp,yAZ];rw[hev,hmk];simp
       rw[jE];exact aA2 hF hc rest 2 (by rw[hops];rfl) hs' (hX.next hs nx) kY h (λJJ pF e1 e2 e3 e4 e5=>hQ JJ pF e1 e2 (nx.trans e3) e4 (e5.trans (by cases d2<;>rfl)))
      .cases h
     .cases h
    .cases h
   .cases h
  .cases h
 .cases h
end
end
section
open Go.RowKit
section
variable{P:Program}{fr fr':Gc}
theorem BR:∀(xs:List Operand),(∀x∈xs,aZ fr x=aZ fr' x)->kL fr xs=kL fr' xs
 | [],_=>rfl
 |x::xs,h=>by
  unfold kL;rw[h x Ai,BR xs λy hy=>h y Ck]
theorem S1:∀(xs:List (Nat×Operand)),(∀x∈xs.map (·.2),aZ fr x=aZ fr' x)->p7 fr xs=p7 fr' xs
 | [],_=>rfl
 |(i,x)::xs,h=>by
  unfold p7;rw[h x Ai,S1 xs λy hy=>h y (by simp only[yAS,yBh];exact .inr hy)]
theorem aBh(op:Op)(h:∀x∈op.operands,aZ fr x=aZ fr' x):eK P fr op=eK P fr' op:=by
 cases op<;>simp only[Op.operands]at h<;>simp only[eK]
 case move x=>exact h x Ai
 case assign x=>exact h x Ai
 case pick a b c=>rw[h a Ai,h b Ai,h c Ai]
 case binOp _ _ a b _=>rw[h a Ai,h b Ai]
 case unOp _ _ a=>rw[h a Ai]
 case convert _ _ a=>rw[h a Ai]
 case makeFunc fn first captured=>
  cases fn<;>simp only
  rw[BR captured.toList λx hx=>h x (by simp only[Array.mem_append];exact .inr Ct),BR first.toList λx hx=>h x (by simp only[Array.mem_append];exact .inl Ct)]
 case slice _ x lo hi mx=>
  have e:aZ fr x=aZ fr' x:=h x Ai;have e1:lo.map (aZ fr)=lo.map (aZ fr'):=by cases lo with|none=>rfl|some y=>simp only[yAC];rw[h y Ai]
  have e2:hi.map (aZ fr)=hi.map (aZ fr'):=by cases hi with|none=>rfl|some y=>simp only[yAC];rw[h y Ai]
  have e3:mx.map (aZ fr)=mx.map (aZ fr'):=by cases mx with|none=>rfl|some y=>simp only[yAC];rw[h y Ai]
  rw[e,e1,e2,e3]
 case fieldAddr _ a _=>rw[h a Ai]
 case field _ a _=>rw[h a Ai]
 case indexAddr _ a b=>rw[h a Ai,h b Ai]
 case index _ a b=>rw[h a Ai,h b Ai]
 case extract a _=>rw[h a Ai]
 case nilCheck a=>rw[h a Ai]
 case build _ ps=>rw[S1 ps.toList λx hx=>h x Ct]
 case call c=>
  obtain⟨callee,args,ts⟩:=c;cases callee<;>simp only
  rw[BR args.toList λx hx=>h x Cg]
theorem NK{fl:Nat}{σ:Gb}(hl:fr.length=fr'.length)(op:Op)(h:∀x∈op.operands,aZ fr x=aZ fr' x):dE P fl fr σ op=dE P fl fr' σ op:=by
 cases op<;>simp only[Op.operands]at h<;>simp only[dE]
 case load _ a=>rw[h a Ai]
 case store _ a b=>rw[h a Ai,h b Ai]
 case box _ a=>rw[h a Ai]
 case convert _ _ a=>rw[h a Ai]
 case makeSlice _ a b=>rw[h a Ai,h b Ai]
 case lookup _ a b _=>rw[h a Ai,h b Ai]
 case mapUpdate _ a b d=>rw[h a Ai,h b Ai,h d Ai]
 case makeMap _ r=>cases r<;>rfl
 case buildSlice _ _ ps=>rw[S1 ps.toList λx hx=>h x Ct]
 case call c=>
  obtain⟨callee,args,ts⟩:=c;cases callee<;>(try simp only)
  rename_i b;cases b<;>(try simp only)
  case append=>rw[BR args.toList λx hx=>h x Cg,hl]
  case copy=>rw[BR args.toList λx hx=>h x Cg]
  case clear=>rw[BR args.toList λx hx=>h x Cg]
theorem aIf(op:Op)(h:∀x∈op.operands,aZ fr x=aZ fr' x):gP fr op=gP fr' op:=by
 cases op<;>simp only[Op.operands]at h<;>simp only[gP]
 case call c=>
  obtain⟨callee,args,ts⟩:=c;cases callee<;>simp only
  rename_i g;rw[BR args.toList λx hx=>h x (by simp[Call.operands];exact .inr (yCf.1 hx)),h g (by simp[Call.operands])]
theorem aBi{call:dA}{fl:Nat}{σ:Gb}(hl:fr.length=fr'.length)(op:Op)(h:∀x∈op.operands,aZ fr x=aZ fr' x):cT P call fl fr σ op=cT P call fl fr' σ op:=by
 unfold cT pop;rw[aIf op h,aBh op h,NK hl op h]
end
section
variable{c:Cx}{fl:Nat}
def Cx.nT(c:Cx)(w:World)(id:Nat)(v:Value):Cx:=
 { w:=w,ρ:=λi=>if i=id then v else c.ρ i,σ:=c.σ,D:=λi=>c.D i\/i=id,X:=c.X }
theorem nF{w:World}{v:Value}{id i:Nat}(h:¬c.D id)(hd:c.D i):(c.nT w id v).ρ i=c.ρ i:=by
 have:i≠id:=by rintro rfl;exact h hd
 simp[Cx.nT,this]
theorem BQ{w:World}{v:Value}{id:Nat}:(c.nT w id v).ρ id=v:=by simp[Cx.nT]
theorem Nv.nT{w':World}{v:Value}{id:Nat}{p:PD}(hn:¬c.D id)(ho:c.σ[id]?=some (.box p))(h:c.w.grownBy w' none)(hv:∀b,bA v=some b->c.w.heap.size<=b):Nv c (c.nT w' id v) where
 cell:=λa u ha hu=>by
  have hlt:=zQ hu;refine⟨⟨ha.1,λi o' hd ho'=>?_⟩,by show w'.cell? a=some u;rw[yCH (h.block a.block hlt Ai)];exact hu⟩;rcases hd with hd|rfl
  .rw[nF hn hd];exact ha.2 i o' hd ho'
  .rw[BQ];have:o'=.box p:=by
    have:c.σ[i]?=some o':=ho';rw[ho]at this;simpa using this.symm
   subst this;intro b hb e;have:=hv b hb;omega
 bG:=λ_ h=>.inl h
 sG:=λi p hd hp=>⟨nF hn hd,p,hp⟩
 nE:=λi hd hk=>⟨nF hn hd,hk⟩
 tF:=λi e s n hd hk=>⟨n,hk,yAk _,λ_=>nF hn hd⟩
 tH:=λi e s v cs hd hk=>⟨v,cs,hk,yAk _,λ_=>nF hn hd⟩
theorem Sr.nT{w':World}{id b:Nat}{p:PD}{cs:Gf}{T:TypeId}(hs:Sr c)(hn:¬c.D id)(ho:c.σ[id]?=some (.box p))(h:c.w.grownBy w' none)(hb:c.w.heap.size<=b)
  (hw:w'.heap[b]?=some (.cells cs T (0,0))) (hv:aV c cs.toList p.cells) (h1:(∀v∈cs.toList,v.oneCell'=true)/\∀t ds,p=.typed t ds->T=t):Sr (c.nT w' id (.pointer (some ⟨b,0,none⟩))):=by
 have nv:Nv c (c.nT w' id (.pointer (some ⟨b,0,none⟩))):=Nv.nT hn ho h (λb' hb'=>by simp[bA]at hb';omega);have hgh:Gh (c.nT w' id (.pointer (some ⟨b,0,none⟩))):=λg hh=>by
  obtain⟨⟨cs',T',fz,e1,e2⟩,e3⟩:=hs.jQ.2 g hh;refine⟨⟨cs',T',fz,by show w'.heap[g]?=_;rw[h.block g (gJ e1) Ai];exact e1,e2⟩,λi hd hb'=>?_⟩;rcases hd with hd|rfl
  .rw[nF hn hd]at hb';exact e3 i hd hb'
  .rw[BQ]at hb';simp[bA]at hb';have:=gJ e1;omega
 refine⟨?_,?_,?_,?_,?_,?_,?_,?_,?_,?_,hs.jQ.1.nU nv,hgh⟩
 .intro i q hd hp;rcases hd with hd|rfl
  .obtain⟨b',cs',T',e1,e2,e3,e4⟩:=hs.box i q hd hp;exact⟨b',cs',T',(nF hn hd).trans e1,by show w'.heap[b']?=_;rw[h.block b' (gJ e2) Ai];exact e2,e3.nU nv,e4⟩
  .have:q=p:=by
    have h':c.σ[i]?=some (.box q):=hp;rw[ho]at h';simpa using h'.symm
   subst this;exact⟨b,cs,T,BQ,hw,hv.nU nv,h1⟩
 .intro i e size n hd hp;rcases hd with hd|rfl
  .obtain⟨xs,hx⟩:=hs.own i e size n hd hp;rw[nF hn hd];exact⟨xs,BS hx (λg hg=>h.block g (hs.lt i g hd hg) Ai)⟩
  .have h':c.σ[i]?=some (.own e size n):=hp;rw[ho]at h';simp at h'
 .intro i e size ver ds hd hp;rcases hd with hd|rfl
  .obtain⟨b',C,cur,e1,e2,e3,e4,e5,e6,e7,e8⟩:=hs.row i e size ver ds hd hp;exact⟨b',C,cur,(nF hn hd).trans e1,by show w'.heap[b']?=_;rw[h.block b' (gJ e2) Ai];exact e2,e3,e4,e5,e6,e7.nU nv,e8⟩
  .have h':c.σ[i]?=some (.row e size ver ds):=hp;rw[ho]at h';simp at h'
 .intro i es hd hp;rcases hd with hd|rfl
  .obtain⟨b',ents,clock,e1,e2,e3,e4⟩:=hs.map i es hd hp;exact⟨b',ents,clock,(nF hn hd).trans e1,by show w'.heap[b']?=_;rw[h.block b' (gJ e2) Ai];exact e2,e3.nU nv,e4.nU nv⟩
  .have h':c.σ[i]?=some (.map es):=hp;rw[ho]at h';simp at h'
 .intro i hd hm;rcases hd with hd|rfl
  .obtain⟨b',e1,e2⟩:=hs.mark i hd hm;exact⟨b',(nF hn hd).trans e1,by show w'.heap[b']?=_;rw[h.block b' (gJ e2) Ai];exact e2⟩
  .have h':c.σ[i]?=some .mark:=hm;rw[ho]at h';simp at h'
 .intro i st fr ps asg bd hd hm;rcases hd with hd|rfl
  .obtain⟨b',r,e1,e2,e3,e4,e5,e6,e7⟩:=hs.loop i st fr ps asg bd hd hm;exact⟨b',r,(nF hn hd).trans e1,by show w'.heap[b']?=_;rw[h.block b' (gJ e2) Ai];exact e2,e3,e4,e5,e6.nU nv,e7⟩
  .have h':c.σ[i]?=some (.loop st fr ps asg bd):=hm;rw[ho]at h';simp at h'
 .intro i j b' hd hd' hne hb1 hb2;rcases hd with hd|rfl
  .rw[nF hn hd]at hb1;rcases hd' with hd' | rfl
   .rw[nF hn hd']at hb2;exact hs.inj i j b' hd hd' hne hb1 hb2
   .rw[BQ]at hb2;simp[bA]at hb2;have:=hs.lt i b' hd hb1;omega
  .rw[BQ]at hb1;simp[bA]at hb1;rcases hd' with hd' | rfl
   .rw[nF hn hd']at hb2;have:=hs.lt j b' hd' hb2;omega
   .exact hne rfl
 .intro i b' hd hb1;rcases hd with hd|rfl
  .rw[nF hn hd]at hb1;exact yBT (hs.lt i b' hd hb1) h.size
  .rw[BQ]at hb1;simp[bA]at hb1;subst hb1;exact gJ hw
 .intro i hd;rcases hd with hd|rfl
  .exact hs.bG i hd
  .exact(yA.1 ho).1
 .exact λa ha=>hs.fresh a (yAV h.size ha)
theorem Nx.nT{c0:Cx}{w':World}{v:Value}{id:Nat}{p:PD}(n0:Nx fl c0 c)(hn:¬c.D id)(ho:c.σ[id]?=some (.box p))(h:c.w.grownBy w' none)(hv:∀b,bA v=some b->c.w.heap.size<=b)
  (hid:c0.σ.length<=id):Nx fl c0 (c.nT w' id v) where
 X:=n0.X
 os:=h.os.trans n0.os
 tape:=h.tape.trans n0.tape
 output:=h.output.trans n0.output
 size:=yAV n0.size h.size
 len:=n0.len
 cell:=λa u ha hu=>let ⟨q1,q2⟩:=n0.cell a u ha hu;(Nv.nT hn ho h hv).cell a u q1 q2
 bG:=λi hd=>.inl (n0.bG i hd)
 new:=λi hd=>by rcases hd with hd|rfl;exact n0.new i hd;exact .inr hid
 sG:=λi q hd hq=>by
  obtain⟨e,q',cX⟩:=n0.sG i q hd hq;exact⟨(nF hn (n0.bG i hd)).trans e,q',cX⟩
 nE:=λi hd hk=>by
  obtain⟨e,hk'⟩:=n0.nE i hd hk;exact⟨(nF hn (n0.bG i hd)).trans e,hk'⟩
 tF:=λi e s n hd hk=>by
  obtain⟨n',h1,h2,h3⟩:=n0.tF i e s n hd hk;exact⟨n',h1,h2,λhh=>(nF hn (n0.bG i hd)).trans (h3 hh)⟩
 tH:=λi e s v cs hd hk=>by
  obtain⟨v0,cs0,h1,h2,h3⟩:=n0.tH i e s v cs hd hk;exact⟨v0,cs0,h1,h2,λhh=>(nF hn (n0.bG i hd)).trans (h3 hh)⟩
 back:=λi b hd hb hlt=>by
  rcases hd with hd|rfl
  .rw[nF hn hd]at hb;exact n0.back i b hd hb hlt
  .rw[BQ]at hb;have:=hv b hb;have:=n0.size;omega
 frame:=λk hk hx=>(h.block k (yBT hk n0.size) Ai).trans (n0.frame k hk hx)
 ro:=n0.ro
 hole:=n0.hole
def Cx.ahead(c:Cx)(l:List aB):Cx:={ c with σ:=c.σ++l }
theorem tI{l:Gb}{id:Nat}(h:id<c.σ.length):(c.ahead l).σ[id]?=c.σ[id]?:=by simp[Cx.ahead,yAg h]
theorem Nx.ahead(hs:Sr c)(l:List aB):Nx fl c (c.ahead l) where
 X:=rfl
 os:=rfl
 tape:=rfl
 output:=rfl
 size:=yAk _
 len:=by simp[Cx.ahead]
 cell:=λa v ha hv=>⟨⟨ha.1,λid o hd ho=>ha.2 id o hd (by rw[tI (hs.bG id hd)]at ho;exact ho)⟩,hv⟩
 bG:=λ_ h=>h
 new:=λ_ h=>.inl h
 sG:=λid p hd h=>⟨rfl,p,Ew⟩
 nE:=λid hd h=>⟨rfl,Ew⟩
 tF:=λid e s n hd h=>⟨n,Ew,yAk _,λ_=>rfl⟩
 tH:=λid e s v cs hd h=>⟨v,cs,by rw[tI (hs.bG id hd)]at h;exact h,yAk _,λ_=>rfl⟩
 back:=λ_ _ h h' _=>⟨h,h'⟩
 frame:=λ_ _ _=>rfl
 ro:=λid _ h=>tI h
 hole:=λid h _=>tI h
theorem Sr.ahead(hs:Sr c)(l:List aB):Sr (c.ahead l) where
 box:=λid p hd hp=>by
  rw[tI (hs.bG id hd)]at hp;obtain⟨b,cs,T,e1,e2,e3,e4⟩:=hs.box id p hd hp;exact⟨b,cs,T,e1,e2,e3.mono (Nx.ahead (fl:=0) hs l),e4⟩
 own:=λid e size n hd ho=>by rw[tI (hs.bG id hd)]at ho;exact hs.own id e size n hd ho
 row:=λid e size ver ds hd ho=>by
  rw[tI (hs.bG id hd)]at ho;obtain⟨b,C,cur,e1,e2,e3,e4,e5,e6,e7,e8⟩:=hs.row id e size ver ds hd ho;exact⟨b,C,cur,e1,e2,e3,e4,e5,e6,e7.mono (Nx.ahead (fl:=0) hs l),e8⟩
 map:=λid es hd ho=>by
  rw[tI (hs.bG id hd)]at ho;obtain⟨b,ents,clock,e1,e2,e3,e4⟩:=hs.map id es hd ho;exact⟨b,ents,clock,e1,e2,e3.mono (Nx.ahead (fl:=0) hs l),e4.mono (Nx.ahead (fl:=0) hs l)⟩
 mark:=λid hd hm=>by rw[tI (hs.bG id hd)]at hm;exact hs.mark id hd hm
 loop:=λid st fr ps asg bd hd hl=>by
  rw[tI (hs.bG id hd)]at hl;obtain⟨b,r,e1,e2,e3,e4,e5,e6,e7⟩:=hs.loop id st fr ps asg bd hd hl;exact⟨b,r,e1,e2,e3,e4,e5,e6.mono (Nx.ahead (fl:=0) hs l),e7⟩
 inj:=hs.inj
 lt:=hs.lt
 bG:=λid hd=>by have:=hs.bG id hd;simp[Cx.ahead];omega
 fresh:=hs.fresh
 jQ:=hs.jQ.mono (Nx.ahead (fl:=0) hs l)
end
end
section
open Go.RowKit
theorem aIe{acc:List Nat}{o:Oper}{k:Nat}(h:(xO acc o).testBit k=true) :
  ∃e∈o.after,Region.binds .any e=true/\(e.on=k\/(acc.getD e.on 0).testBit k=true):=by
 have key:∀(l:List Edge) (s:Nat),(l.foldl (λs e=>if Region.binds .any e then s ||| 2^e.on ||| acc.getD e.on 0 else s) s).testBit k=true ->
   s.testBit k=true\/∃e∈l,Region.binds .any e=true/\(e.on=k\/(acc.getD e.on 0).testBit k=true):=by
  intro l
  induction l with
  |nil=>intro s h;exact .inl h
  |cons e l ih=>
   intro s h;simp only[yDm]at h;rcases ih _ h with h1 | ⟨e',h2,h3⟩
   .split at h1
    .rename_i hb;simp only[Nat.testBit_or,Nat.testBit_two_pow,yBR,yCk]at h1;rcases h1 with(h1|h1)|h1
     .exact .inl h1
     .exact .inr ⟨e,Ai,hb,.inl h1⟩
     .exact .inr ⟨e,Ai,hb,.inr h1⟩
    .exact .inl h1
   .exact .inr ⟨e',by simp[h2],h3⟩
 rcases key _ _ h with h1 | ⟨e,h2,h3⟩
 .simp at h1
 .exact⟨e,yCf.1 h2,h3⟩
theorem SX:∀(l:List Oper) (acc:List Nat),(cN l acc).take acc.length=acc
 | [],acc=>by simp[cN]
 |o::r,acc=>by
  have:=SX r (acc++[xO acc o]);simp only[cN];have h2:acc.length<=(acc++[xO acc o]).length:=Ai;have h3:=yAK (List.take acc.length) this;rw[yCj,yBK h2]at h3;rw[h3];simp
theorem aBq:∀(l:List Oper) (acc:List Nat) (i:Nat),(cN l acc)[acc.length+i]?=(l[i]?).map λo=>xO ((cN l acc).take (acc.length+i)) o
 | [],acc,i=>by simp[cN]
 |o::r,acc,0=>by
  have h1:=SX (o::r) acc;have h2:=SX r (acc++[xO acc o]);simp only[yBo,h1,yBv,yAC];have h3:(cN (o::r) acc)[acc.length]?=((cN r (acc++[xO acc o])).take (acc++[xO acc o]).length)[acc.length]?:=by
   rw[yAv,yAJ Ai];rfl
  rw[h3,h2];simp
 |o::r,acc,i+1=>by
  have:=aBq r (acc++[xO acc o]) i;simp only[yAa,yCX]at this;simp only[cN,yBL];rw[show acc.length+(i+1)=acc.length+1+i by omega];exact this
section
variable{ops:Gg}
theorem SY{i k:Nat}(h:((cN ops.toList []).getD i 0).testBit k=true) :
  ∃o,ops[i]?=some o/\∃e∈o.after,Region.binds .any e=true/\(e.on=k\/(((cN ops.toList []).take i).getD e.on 0).testBit k=true):=by
 have h1:=aBq ops.toList [] i;simp only[yAQ,yAp,yCG]at h1;rw[yAA,h1]at h;cases ho:ops[i]? with
 |none=>rw[ho]at h;simp at h
 |some o=>
  rw[ho]at h;simp only[yAC,yDk]at h;exact⟨o,rfl,aIe h⟩
theorem SZ{l:List Nat}{i j:Nat}(h:j<i):(l.take i).getD j 0=l.getD j 0:=by
 simp[yAA,h]
structure q9 (ops:Array Oper) (ms:List Nat):Prop where
 aU9:Region.noSelect ops=true
 shape:∀(i:Nat) (o:Oper),ops[i]?=some o->(iF o.op||fB o.op||dF o.op||qB o.op||eG o.op)=true
 once:∀(i:Nat) (o:Oper) (j:Nat) (oj:Oper) (d:Tmp),ops[i]?=some o->ops[j]?=some oj->j≠i->oj.dst=some d->o.dst≠some d
 looks:∀(i:Nat) (o:Oper) (j:Nat) (oj:Oper) (d:Tmp),ops[i]?=some o->ops[j]?=some oj->j≠i->oj.dst=some d->d∈o.looksAt ops ->
  (j<i->∃e∈o.after,Region.binds .any e=true/\e.on=j)/\(i<j->∃e∈oj.after,Region.binds .any e=true/\e.on=i)
 down:∀(i:Nat) (o:Oper),ops[i]?=some o->∀e∈o.after,Region.binds .any e=true->e.on<i
 ord:∀(i:Nat) (o:Oper) (j:Nat) (oj:Oper),ops[i]?=some o->ops[j]?=some oj->eG o.op=true->eG oj.op=true->j<i->(ms.getD i 0).testBit j=true
theorem NL{f:Op->Bool}{i:Nat}{o:Oper}(h:ops[i]?=some o):fA f ops.toList i=f o.op:=by
 simp[fA,h]
theorem pI{i:Nat}{o:Oper}(h:ops[i]?=some o):i<ops.size:=(yDF.1 h).1
theorem DU{ms:List Nat}(h:vW ops ms=true):q9 ops ms:=by
 simp only[vW,yAr,yAn,yAX]at h;obtain⟨h0,h⟩:=h;have at':∀(i:Nat) (o:Oper),ops[i]?=some o->_:=λi o ho=>by
  have:=h i (pI ho);simp only[ho,yAr]at this;exact this
 have ssa:∀(i:Nat) (o:Oper) (j:Nat) (oj:Oper) (d:Tmp),ops[i]?=some o->ops[j]?=some oj->j≠i->oj.dst=some d->_:=λi o j oj d ho hoj hne hd=>by
  have:=(at' i o ho).1.1.2;simp only[aBr,yAn,yAX]at this;have:=this j (pI hoj);simp only[hoj,hd,yBR,yCg,hne,false_or,yAr]at this;exact this
 refine⟨h0,λi o ho=>(at' i o ho).1.1.1,?_,?_,?_,?_⟩
 .intro i o j oj d ho hoj hne hd;simpa using(ssa i o j oj d ho hoj hne hd).1
 .intro i o j oj d ho hoj hne hd hl;have:=(ssa i o j oj d ho hoj hne hd).2;simp only[yBI,List.contains_eq_mem,decide_eq_false_iff_not,hl,yBM,false_or]at this;refine⟨λhlt=>?_,λhlt=>?_⟩
  .rw[yAJ hlt]at this;exact qe
  .rw[yAI Ah]at this;exact qe
 .intro i o ho e he hb;have:=Array.all_eq_true'.1 (at' i o ho).1.2 e he;simpa [hb]using this
 .intro i o j oj ho hoj hw hwj hlt;have:=(at' i o ho).2;simp only[hw,yBJ,yCc,yAn,yAX]at this;have:=this j hlt;rw[NL hoj,hwj]at this;exact cr
def Lt(listed:Array Bool)(i:Nat):Prop:=listed[i]?=some true
def NM(ops:Array Oper)(S:Nat->Prop):Prop:=∀(i:Nat) (o:Oper),S i->ops[i]?=some o->∀e∈o.after,Region.binds .any e=true->S e.on
theorem aBk(hr:∀(i:Nat) (o:Oper),ops[i]?=some o->∀e∈o.after,Region.binds .any e=true->e.on<i):∀(i k:Nat),((cN ops.toList []).getD i 0).testBit k=true->k<i:=by
 intro i
 induction i using Nat.strongRecOn with
 |_ i ih=>
  intro k h;obtain⟨o,ho,e,he,hb,h⟩:=SY h;have hlt:=hr i o ho e he hb;rcases h with rfl|h
  .exact hlt
  .rw[SZ hlt]at h;exact Nat.lt_trans (ih _ hlt _ h) hlt
theorem aBl(hr:∀(i:Nat) (o:Oper),ops[i]?=some o->∀e∈o.after,Region.binds .any e=true->e.on<i){S:Nat->Prop}(hS:NM ops S):∀(i k:Nat),S i->((cN ops.toList []).getD i 0).testBit k=true->S k:=by
 intro i
 induction i using Nat.strongRecOn with
 |_ i ih=>
  intro k hi h;obtain⟨o,ho,e,he,hb,h⟩:=SY h;have hlt:=hr i o ho e he hb;have hs:=hS i o hi ho e he hb;rcases h with rfl|h
  .exact hs
  .rw[SZ hlt]at h;exact ih _ hlt _ hs h
theorem aBe(hr:∀(i:Nat) (o:Oper),ops[i]?=some o->∀e∈o.after,Region.binds .any e=true->e.on<i){S:Nat->Prop}(hS:NM ops S){i k:Nat}{o:Oper}(ho:ops[i]?=some o)
  (hi:∀e∈o.after,Region.binds .any e=true->S e.on) (h:((cN ops.toList []).getD i 0).testBit k=true):S k:=by
 obtain⟨o',ho',e,he,hb,h⟩:=SY h;rw[ho]at ho';simp only[yAb]at ho';subst ho';have hlt:=hr i o ho e he hb;rcases h with rfl|h
 .exact hi e he hb
 .rw[SZ hlt]at h;exact aBl hr hS _ _ (hi e he hb) h
structure pJ (ops:Array Oper) (ps:Nat->PD) (fS:List PD) (S:Nat->Prop) (fr:List PD):Prop where
 len:fr.length=fS.length
 slot:∀x,(∃(j:Nat) (o:Oper),ops[j]?=some o/\S j/\o.dst=some x/\(x<fS.length->fr[x]?=some (ps j)))\/((∀(j:Nat) (o:Oper),ops[j]?=some o->S j->o.dst≠some x)/\fr[x]?=fS[x]?)
variable{ps:Nat->PD}{fS fr fr':Gc}{S T:Nat->Prop}
theorem pJ.start(h:∀j,¬S j):pJ ops ps fS S fS:=⟨rfl,λ_=>.inr ⟨λj _ _ hj=>absurd hj (h j),rfl⟩⟩
theorem pJ.congr(h:pJ ops ps fS S fr)(hST:∀j,S j↔T j):pJ ops ps fS T fr:=
 ⟨h.len,λx=>(h.slot x).imp (λ⟨j,o,a,b,r⟩=>⟨j,o,a,(hST j).1 b,r⟩) (λ⟨a,b⟩=>⟨λj o ho hj=>a j o ho ((hST j).2 hj),b⟩)⟩
theorem pJ.put{ms:List Nat}(hr:q9 ops ms)(h:pJ ops ps fS S fr){i:Nat}{o:Oper}(ho:ops[i]?=some o):pJ ops ps fS (λj=>S j\/j=i) (bE fr o.dst (ps i)):=by
 cases hd:o.dst with
 |none=>
  refine⟨h.len,λx=>(h.slot x).imp (λ⟨j,o',a,b,r⟩=>⟨j,o',a,.inl b,r⟩) (λ⟨a,b⟩=>⟨λj o' ho' hj=>?_,b⟩)⟩;rcases hj with hj|rfl
  .exact a j o' ho' hj
  .rw[ho]at ho';simp only[yAb]at ho';subst ho';rw[hd];simp
 |some d=>
  refine⟨by simpa [bE]using h.len,λx=>?_⟩
  by_cases e:x=d
  .subst e;exact .inl ⟨i,o,ho,.inr rfl,hd,λhx=>by simp[bE,yCT,h.len,hx]⟩
  .have hne:(bE fr (some d) (ps i))[x]?=fr[x]?:=by simp[bE,yAd (yAW e)]
   rw[hne];refine(h.slot x).imp (λ⟨j,o',a,b,r⟩=>⟨j,o',a,.inl b,r⟩) (λ⟨a,b⟩=>⟨λj o' ho' hj=>?_,b⟩);rcases hj with hj|rfl
   .exact a j o' ho' hj
   .rw[ho]at ho';simp only[yAb]at ho';subst ho';rw[hd];simpa using yAW e
theorem pJ.agree{ms:List Nat}(hr:q9 ops ms)(h:pJ ops ps fS S fr)(h':pJ ops ps fS T fr'){x:Nat}(hx:∀(j:Nat) (o:Oper),ops[j]?=some o->o.dst=some x->(S j↔T j)):fr[x]?=fr'[x]?:=by
 rcases h.slot x with⟨j,o,ho,hj,hd,hv⟩ | ⟨hno,hv⟩
 .rcases h'.slot x with⟨j',o',ho',hj',hd',rA⟩ | ⟨aBs,rA⟩
  .have:j'=j:=by
    rcases Nat.decEq j' j with hne|heq
    .exact absurd hd (hr.once j o j' o' x ho ho' hne hd')
    .exact heq
   subst this;rcases yCh x fS.length with hlt|hge
   .rw[hv hlt,rA hlt]
   .rw[yBB (by rw[h.len];exact hge),yBB (by rw[h'.len];exact hge)]
  .exact absurd hd (aBs j o ho ((hx j o ho hd).1 hj))
 .rcases h'.slot x with⟨j',o',ho',hj',hd',rA⟩ | ⟨aBs,rA⟩
  .exact absurd hd' (hno j' o' ho' ((hx j' o' ho' hd').2 hj'))
  .rw[hv,rA]
theorem pJ.same{ms:List Nat}(hr:q9 ops ms)(h:pJ ops ps fS S fr)(h':pJ ops ps fS T fr')(hx:∀(j:Nat) (o:Oper),ops[j]?=some o->(S j↔T j)):fr=fr':=
 yCo λ_=>h.agree hr h' λj o ho _=>hx j o ho
def gT(ops:List Oper)(i:Nat):Nat:=((ops.take i).filter λo=>dF o.op).length
theorem NO{l:List Oper}{i:Nat}{o:Oper}(h:l[i]?=some o):gT l (i+1)=gT l i+if dF o.op then 1 else 0:=by
 unfold gT;rw[List.take_add_one,h];simp only[Option.toList_some,List.filter_append,yAa]
 congr 1
 by_cases hs:dF o.op=true<;>simp[hs]
theorem aBt{l:List Oper}{i j:Nat}(h:i<=j):gT l i<=gT l j:=by
 unfold gT;have:l.take i=(l.take j).take i:=by rw[yCj,yBK h]
 rw[this];exact((List.take_sublist i (l.take j)).filter _).length_le
theorem aH3{l:List Oper}{i j:Nat}{o oj:Oper}(hi:l[i]?=some o)(hj:l[j]?=some oj)(hs:dF o.op=true)(hsj:dF oj.op=true)(hne:i≠j):gT l i≠gT l j:=by
 rcases Nat.lt_or_gt_of_ne hne with h|h
 .have:=aBt (l:=l) (Nat.succ_le_of_lt h);rw[Nat.succ_eq_add_one,NO hi,yAJ hs]at this;omega
 .have:=aBt (l:=l) (Nat.succ_le_of_lt h);rw[Nat.succ_eq_add_one,NO hj,yAJ hsj]at this;omega
theorem SS{P:Program}:∀ {l:List Oper} {hs:Gb},nQ P l=some hs->∀(i:Nat) (o:Oper) (t:TypeId),l[i]?=some o->o.op=.alloc t ->
  ∃z,eR P t=some z/\z.cells.all PD.plain=true/\hs[gT l i]?=some (.box (boxed t z))
 | [],hs,h,i,o,t,hi,_=>by simp at hi
 |o'::r,hs,h,0,o,t,hi,ht=>by
  simp only[yBv,yAb]at hi;subst hi;unfold nQ at h;rw[ht]at h;simp only at h;split at h
  .rename_i p l hp hl;split at h
   .rename_i hpl;simp only[yAb]at h;subst h;exact⟨p,hp,hpl,by simp[gT]⟩
   .exact ak
  .exact ak
 |o'::r,hs,h,i+1,o,t,hi,ht=>by
  simp only[yBL]at hi;unfold nQ at h;split at h
  .rename_i t' ht';split at h
   .rename_i p l hp hl;split at h
    .rename_i hpl;simp only[yAb]at h;subst h;obtain⟨z,h1,h2,h3⟩:=SS hl i o t hi ht;refine⟨z,h1,h2,?_⟩;have:gT (o'::r) (i+1)=gT r i+1:=by simp[gT,ht',dF]
     rw[this,yBL];exact h3
    .exact ak
   .exact ak
  .rename_i hne;obtain⟨z,h1,h2,h3⟩:=SS h i o t hi ht;refine⟨z,h1,h2,?_⟩;have hna:dF o'.op=false:=by
    cases ho:o'.op<;>first|rfl|exact absurd ho (hne _)
   have:gT (o'::r) (i+1)=gT r i:=by simp[gT,hna]
   rw[this];exact h3
structure JI (P:Program) (call:dA) (fl:Nat) (ops:Array Oper) (ms:List Nat) (k0:Nat) (frs:Nat->List PD) (σs:Nat->List aB) (ps:Nat->PD) (ft:Nat->Option Nat) (z:Nat->Bool) (i:Nat) (o:Oper):Prop where
 put:frs (i+1)=bE (frs i) o.dst (ps i)
 run:Region.wanted o (bR ops (frs i))=true->l6 P call fl (z i) (k0+gT ops.toList i) (frs i) (σs i) o.op=some (ps i,σs (i+1))/\ft i=lK (frs i) o.op
 skip:Region.wanted o (bR ops (frs i))=false->ps i=.aI []/\σs (i+1)=σs i
theorem aH7{P:Program}{call:dA}{fl k0:Nat}{ms:List Nat}:∀(l:List Oper) (i k:Nat) (fr:List PD) (σ:List aB) (tr:List TE) (fr':List PD) (σ':List aB),ops.toList.drop i=l->k=k0+gT ops.toList i ->
  eW P call fl ops ms i k l fr σ=some (tr,fr',σ')->∃(frs:Nat->List PD) (σs:Nat->List aB) (ps:Nat->PD) (ft:Nat->Option Nat),frs i=fr/\σs i=σ/\frs (i+l.length)=fr'/\σs (i+l.length)=σ' /\
   (∀(j:Nat) (o:Oper),i<=j->ops[j]?=some o->JI P call fl ops ms k0 frs σs ps ft (λi=>kI ops.toList ms i) j o)/\(∀j,i<=j->j<i+l.length->ft j=(tr[j-i]?).bind TE.iZ):=by
 intro l
 induction l with
 |nil=>
  intro i k fr σ tr fr' σ' hdrop hk h;simp only[eW,yAb,yAc]at h;obtain⟨rfl,rfl,rfl⟩:=h;refine⟨λ_=>fr,λ_=>σ,λ_=>default,λ_=>none,rfl,rfl,rfl,rfl,λj o hj ho=>?_,λj h1 h2=>absurd h2 Aw⟩;exact qy
 |cons o rest ih=>
  intro i k fr σ tr fr' σ' hdrop hk h;have ho:ops[i]?=some o:=by
   exact yg
  have xR:ops.toList.drop (i+1)=rest:=by rw[<-yBD,hdrop];rfl
  have hk':(if dF o.op then k+1 else k)=k0+gT ops.toList (i+1):=by
   rw[NO Cu,hk];split<;>omega
  simp only[eW]at h;have lift:∀(p:PD) (σ1:List aB) (iZ:Option Nat) (pK:List TE),eW P call fl ops ms (i+1) (if dF o.op then k+1 else k) rest (bE fr o.dst p) σ1=some (pK,fr',σ') ->
    tr=⟨fr,σ,p,iZ⟩::pK->(Region.wanted o (bR ops fr)=true->l6 P call fl (kI ops.toList ms i) (k0+gT ops.toList i) fr σ o.op=some (p,σ1)/\iZ=lK fr o.op) ->
    (Region.wanted o (bR ops fr)=false->p=.aI []/\σ1=σ)->∃(frs:Nat->List PD) (σs:Nat->List aB) (ps:Nat->PD) (ft:Nat->Option Nat),frs i=fr/\σs i=σ/\frs (i+(o::rest).length)=fr'/\σs (i+(o::rest).length)=σ' /\
   (∀(j:Nat) (o:Oper),i<=j->ops[j]?=some o->JI P call fl ops ms k0 frs σs ps ft (λi=>kI ops.toList ms i) j o)/\(∀j,i<=j->j<i+(o::rest).length->ft j=(tr[j-i]?).bind TE.iZ):=by
   intro p σ1 iZ pK h1 htr hrun hskip;obtain⟨frs,σs,ps,ft,e1,e2,e3,e4,h5,h6⟩:=ih (i+1) _ _ _ _ _ _ xR hk' h1;refine⟨λj=>if j=i then fr else frs j,λj=>if j=i then σ else σs j,λj=>if j=i then p else ps j,λj=>if j=i then iZ else ft j,Ai,Ai,?_,?_,?_,?_⟩
   .exact lp
   .exact lq
   .intro j oj hj hoj
    by_cases e:j=i
    .exact fy
    .have h7:=h5 j oj Ah hoj;have hne:j+1≠i:=Ah;refine⟨?_,?_,?_⟩
     .simp only[yAI e,yAI hne];exact h7.put
     .simp only[yAI e,yAI hne];exact h7.run
     .simp only[yAI e,yAI hne];exact h7.skip
   .exact jh
  exact xq
theorem aH8{P:Program}{call:dA}{fl k0:Nat}{ms:List Nat}:∀(l:List Oper) (i k:Nat) (fr:List PD) (σ:List aB) (tr:List TE) (fr':List PD) (σ':List aB),ops.toList.drop i=l->k=k0+gT ops.toList i ->
  rB P call fl ops i k l fr σ=some (tr,fr',σ')->∃(frs:Nat->List PD) (σs:Nat->List aB) (ps:Nat->PD) (ft:Nat->Option Nat),frs i=fr/\σs i=σ/\frs (i+l.length)=fr'/\σs (i+l.length)=σ' /\
   (∀(j:Nat) (o:Oper),i<=j->ops[j]?=some o->JI P call fl ops ms k0 frs σs ps ft (λ_=>true) j o)/\(∀j,i<=j->j<i+l.length->ft j=(tr[j-i]?).bind TE.iZ)/\(∀j,i<=j->σs j=TE.at tr σ' (j-i)):=by
 intro l
 induction l with
 |nil=>
  intro i k fr σ tr fr' σ' hdrop hk h;simp only[rB,yAb,yAc]at h;obtain⟨rfl,rfl,rfl⟩:=h;refine⟨λ_=>fr,λ_=>σ,λ_=>default,λ_=>none,rfl,rfl,rfl,rfl,λj o hj ho=>?_,λj h1 h2=>absurd h2 Aw,λj _=>by simp[TE.at]⟩;exact qy
 |cons o rest ih=>
  intro i k fr σ tr fr' σ' hdrop hk h;have ho:ops[i]?=some o:=by
   exact yg
  have xR:ops.toList.drop (i+1)=rest:=by rw[<-yBD,hdrop];rfl
  have hk':(if dF o.op then k+1 else k)=k0+gT ops.toList (i+1):=by
   rw[NO Cu,hk];split<;>omega
  simp only[rB]at h;have lift:∀(p:PD) (σ1:List aB) (iZ:Option Nat) (pK:List TE),rB P call fl ops (i+1) (if dF o.op then k+1 else k) rest (bE fr o.dst p) σ1=some (pK,fr',σ') ->
    tr=⟨fr,σ,p,iZ⟩::pK->(Region.wanted o (bR ops fr)=true->l6 P call fl (true) (k0+gT ops.toList i) fr σ o.op=some (p,σ1)/\iZ=lK fr o.op) ->
    (Region.wanted o (bR ops fr)=false->p=.aI []/\σ1=σ)->∃(frs:Nat->List PD) (σs:Nat->List aB) (ps:Nat->PD) (ft:Nat->Option Nat),frs i=fr/\σs i=σ/\frs (i+(o::rest).length)=fr'/\σs (i+(o::rest).length)=σ' /\
   (∀(j:Nat) (o:Oper),i<=j->ops[j]?=some o->JI P call fl ops ms k0 frs σs ps ft (λ_=>true) j o)/\(∀j,i<=j->j<i+(o::rest).length->ft j=(tr[j-i]?).bind TE.iZ)/\(∀j,i<=j->σs j=TE.at tr σ' (j-i)):=by
   intro p σ1 iZ pK h1 htr hrun hskip;obtain⟨frs,σs,ps,ft,e1,e2,e3,e4,h5,h6,h7⟩:=ih (i+1) _ _ _ _ _ _ xR hk' h1;refine⟨λj=>if j=i then fr else frs j,λj=>if j=i then σ else σs j,λj=>if j=i then p else ps j,λj=>if j=i then iZ else ft j,Ai,Ai,?_,?_,?_,?_,?_⟩
   .exact lp
   .exact lq
   .intro j oj hj hoj
    by_cases e:j=i
    .exact fy
    .have h8:=h5 j oj Ah hoj;have hne:j+1≠i:=Ah;refine⟨?_,?_,?_⟩
     .simp only[yAI e,yAI hne];exact h8.put
     .simp only[yAI e,yAI hne];exact h8.run
     .simp only[yAI e,yAI hne];exact h8.skip
   .exact jh
   .intro j hj
    by_cases e:j=i
    .subst e;simp[htr,TE.at]
    .simp only[yAI e];rw[h7 j Ah,htr,show j-i=(j-(i+1))+1 by omega];simp[TE.at]
  exact xq
end
end
section
open Go.RowKit
section
variable{P:Program}{call:dA}{fl k:Nat}{free:Bool}{fr:Gc}{σ σ':Gb}{op:Op}{p:PD}
theorem JB(h:fB op=true\/qB op=true\/iP op=true):eK P fr op=none/\gP fr op=none/\iF op=false/\dF op=false/\eM op=false:=by
 by_cases hc:∃s d x,op=.convert s d x
 .obtain⟨s,d,x,rfl⟩:=hc;have ht:DO s d=true:=by rcases h with h|h|h<;>first|exact h|cases h
  exact⟨by simp only[eK,ht,yAL],rfl,by simp only[iF,ht,yBJ],rfl,rfl⟩
 cases op<;>simp[fB,qB,iP]at h hc<;>simp[eK,gP,iF,dF,eM]
theorem aAZ(h:iF op=true):gP fr op=none/\dF op=false/\eG op=false/\fB op=false:=by
 by_cases hc:∃s d x,op=.convert s d x
 .obtain⟨s,d,x,rfl⟩:=hc;have ht:DO s d=false:=by simpa only[iF,yBI]using h
  exact⟨rfl,rfl,rfl,ht⟩
 cases op<;>simp[iF]at h hc<;>simp[gP,dF,eG,iP,eM,fB]
 rename_i c;obtain⟨callee,args,ts⟩:=c;cases callee<;>simp at h ⊢
 rename_i b;cases b<;>simp at h ⊢
theorem aIa(h:eM op=true):iF op=false/\dF op=false/\fB op=false/\iP op=false:=by
 cases op<;>simp[eM]at h<;>simp[iF,dF,fB,iP]
 rename_i c;obtain⟨callee,args,ts⟩:=c;cases callee with
 |value f=>rfl
 |invoke r m=>simp at h
 |builtin b=>cases b<;>simp at h ⊢
theorem aH1(h:dF op=true):iF op=false/\eG op=false/\fB op=false/\∃t,op=.alloc t:=by
 cases op<;>simp[dF]at h<;>simp[iF,eG,iP,eM,fB]
theorem aIb{t e:TypeId}{n:Nat}(hn:n≠0)(ht:SU t=false):vU P σ t e n n=(vU P [] t e n n).map λr=>(r.1,σ):=by
 unfold vU;cases P.info? e<;>cases cH P e<;>cases eR P e<;>simp only[yDJ]
 split
 .simp only[hn,false_and,yAN,yAL,ht,yAx,yAC]
 .rfl
theorem SR{t:TypeId}{a b:Operand}(h:SW t a b=true):∃q:Option PD,∀(fl:Nat) (fr:List PD) (σ:List aB),dE P fl fr σ (.makeSlice t a b)=q.map λp=>(p,σ):=by
 unfold SW at h;split at h
 .rename_i l _ k;simp only[yAr,yCk,yBI]at h;obtain⟨⟨rfl,hl⟩,ht⟩:=h;have h0:0<=l:=Ah;have hn:l.toNat≠0:=Ah;cases hu:P.underlying t with
  |none=>exact⟨none,λfl fr σ=>by simp only[dE,hu];rfl⟩
  |some d=>
   cases d with
   |slice e=>
    refine⟨(vU P [] t e l.toNat l.toNat).map (·.1),λfl fr σ=>?_⟩;have hv:∀k,gU (aZ fr (.const (.int k l)))=some l.toNat:=λk=>by
     show(if 0<=l then some l.toNat else none)=_
     rw[yAJ h0]
    simp only[dE,hu,hv];rw[aIb hn ht,Option.map_map];rfl
   |_=>exact⟨none,λfl fr σ=>by simp only[dE,hu];rfl⟩
 .cases h
theorem aIc(hl:fB op=true\/qB op=true)(h:dE P fl fr σ op=some (p,σ')):σ'=σ:=by
 by_cases hc:∃s d x,op=.convert s d x
 .obtain⟨s,d,x,rfl⟩:=hc;simp only[dE]at h
  repeat' split at h
  all_goals first
   |(simp only[yAb,yAc]at h;exact h.2.symm)
   |(cases h;done)
 cases op<;>simp[fB,qB]at hl hc
 .exact yw
 .exact yw
 .rename_i t x y;obtain⟨q,hq⟩:=SR (P:=P) hl;rw[hq]at h;cases q with
  |none=>cases h
  |some q=>simp only[yAC,yAb,yAc]at h;exact h.2.symm
theorem aId(hl:iP op=true)(h:dE P fl fr σ op=some (p,σ')):∃id o,lK fr op=some id/\σ'=σ.set id o:=by
 cases op<;>simp[iP]at hl
 rename_i t x y;simp only[dE]at h;split at h
 .rename_i a q h1 h2;split at h
  .rename_i s hs;simp only[yAb,yAc]at h;obtain⟨rfl,rfl⟩:=h;unfold s9 at hs;split at hs
   .rename_i id off;split at hs
    .exact ja
    .simp at hs
   .rename_i id ver off;exact ja
   .simp at hs
  .exact ak
 .exact ak
theorem aBp(hs:(iF op||fB op||dF op||qB op||eG op)=true)(hw:eG op=false)(h:l6 P call fl free k fr σ op=some (p,σ')):σ'=σ:=by
 unfold l6 at h;split at h
 .split at h
  .exact ng
  .exact ak
 .rename_i hA;split at h
  .exact ng
  .rename_i hB;have hm:eM op=false:=by simp[eG]at hw;exact hw.2
   rw[hm]at h;simp only[yBa,yAx,yAN]at h;refine aIc ?_ h;simp[hw,yCw]at hs hA hB;rw[hA,hB]at hs;simpa using hs
end
section
variable{P:Program}{call:dA}{fl k0:Nat}{ops:Gg}{ms:List Nat}{frs:Nat->Gc}{σs:Nat->Gb}{ps:Nat->PD}{ft:Nat->Option Nat}{z:Nat->Bool}
def pH(P:Program)(call:dA)(fl:Nat)(ops:Array Oper)(ms:List Nat)(k0:Nat)(frs:Nat->List PD)(σs:Nat->List aB)(ps:Nat->PD)(ft:Nat->Option Nat)(z:Nat->Bool):Prop:=
 ∀(i:Nat) (o:Oper),ops[i]?=some o->JI P call fl ops ms k0 frs σs ps ft z i o
theorem pH.still(hr:q9 ops ms)(ht:pH P call fl ops ms k0 frs σs ps ft z){i:Nat}{o:Oper}(ho:ops[i]?=some o)(hw:eG o.op=false):σs (i+1)=σs i:=by
 cases hwt:Region.wanted o (bR ops (frs i))with
 |true=>exact aBp (hr.shape i o ho) hw ((ht i o ho).run hwt).1
 |false=>exact((ht i o ho).skip hwt).2
theorem pH.SM(hr:q9 ops ms)(ht:pH P call fl ops ms k0 frs σs ps ft z){i:Nat}:∀(d:Nat),i+d<=ops.size->(∀j o,i<=j->j<i+d->ops[j]?=some o->eG o.op=false)->σs (i+d)=σs i
 |0,_,_=>rfl
 |d+1,hn,h=>by
  have ih:=ht.SM hr d Ah λj o h1 h2 ho=>h j o h1 Ah ho
  have ho:ops[i+d]?=some ops[i+d]:=yCy Ah;rw[show i+(d+1)=i+d+1 by omega,ht.still hr ho (h _ _ Ah Ah ho),ih]
def JG(ops:Array Oper)(ms:List Nat)(ft:Nat->Option Nat)(z:Nat->Bool)(σs:Nat->List aB):Prop:=
 (∀(k i:Nat) (ok oi:Oper),ops[k]?=some ok->ops[i]?=some oi->iP ok.op=true->fB oi.op=true->loose ms i k=true->∀a b,ft i=some a->ft k=some b->a≠b) /\
 ∀(k i:Nat) (ok oi:Oper) (id:Nat),ops[k]?=some ok->ops[i]?=some oi->eM ok.op=true->fB oi.op=true->loose ms i k=true->z k=true->ft i=some id ->
  (σs k).length<=(σs (k+1)).length/\(id<(σs k).length->(σs (k+1))[id]?=(σs k)[id]?)
theorem pH.loose(hr:q9 ops ms)(ht:pH P call fl ops ms k0 frs σs ps ft z)(hf:JG ops ms ft z σs){i id:Nat}{oi:Oper}(hi:ops[i]?=some oi)(hl:fB oi.op=true)(hid:ft i=some id)
  {k:Nat} {o:Oper} (ho:ops[k]?=some o) (hk:eG o.op=true->Kz.loose ms i k=true) (hlt:id<(σs k).length):(σs (k+1))[id]?=(σs k)[id]?/\(σs k).length<=(σs (k+1)).length:=by
 cases hw:eG o.op with
 |false=>rw[ht.still hr ho hw];exact⟨rfl,yAk _⟩
 |true=>
  have hloose:=hk hw;cases hwt:Region.wanted o (bR ops (frs k))with
  |false=>rw[((ht k o ho).skip hwt).2];exact⟨rfl,yAk _⟩
  |true=>
   obtain⟨hrun,hfoot⟩:=(ht k o ho).run hwt;simp only[eG,yBR]at hw;rcases hw with hst|hmv
   .obtain⟨_,_,hA,hB,hM⟩:=JB (P:=P) (fr:=frs k) (.inr (.inr hst));unfold l6 at hrun;simp only[hA,hB,hM,yAx,yAN,yBa]at hrun;obtain⟨id',o',h1,h2⟩:=aId hst hrun;have hne:id≠id':=hf.1 k i o oi ho hi hst hl hloose id id' hid (hfoot.trans h1);rw[h2];exact⟨yAd (yAW hne),Ai⟩
   .obtain⟨hA,hB,_,_⟩:=aIa hmv;cases hfree:z k with
    |true=>
     obtain⟨q1,q2⟩:=hf.2 k i o oi id ho hi hmv hl hloose hfree hid;exact⟨q2 hlt,q1⟩
    |false=>
    rw[hfree]at hrun;unfold l6 at hrun;simp only[hA,hB,hmv,yAx,yAN,yCm,yCn,yAL]at hrun;split at hrun
    .rename_i p σ1 hst;simp only[yAb,yAc]at hrun;rw[<-hrun.2];exact⟨by rw[yAg hlt],Ai⟩
    .simp at hrun
theorem pH.SO(hr:q9 ops ms)(ht:pH P call fl ops ms k0 frs σs ps ft z)(hf:JG ops ms ft z σs){i id:Nat}{oi:Oper}(hi:ops[i]?=some oi)(hl:fB oi.op=true)(hid:ft i=some id){m:Nat} :
  ∀(d:Nat),m+d<=ops.size->(∀k o,m<=k->k<m+d->ops[k]?=some o->eG o.op=true->Kz.loose ms i k=true)->id<(σs m).length->(σs (m+d))[id]?=(σs m)[id]?/\(σs m).length<=(σs (m+d)).length
 |0,_,_,_=>⟨rfl,yAk _⟩
 |d+1,hn,h,hlt=>by
  obtain⟨h1,h2⟩:=ht.SO hr hf hi hl hid d Ah (λk o a b=>h k o a Ah) hlt;have ho:ops[m+d]?=some ops[m+d]:=yCy Ah;obtain⟨h3,h4⟩:=ht.loose hr hf hi hl hid ho (λhw=>h _ _ Ah Ah ho hw) Ah;exact⟨h3.trans h1,yAV h2 h4⟩
theorem pH.zP(hr:q9 ops ms)(ht:pH P call fl ops ms k0 frs σs ps ft z):∀(i:Nat),i<=ops.size->pJ ops ps (frs 0) (· < i) (frs i)
 |0,_=>.start λj=>yBb j
 |i+1,h=>by
  have ho:ops[i]?=some ops[i]:=yCy Ah;have ih:=ht.zP hr i Ah;rw[(ht i _ ho).put];exact(ih.put hr ho).congr λj=>Ah
theorem aHX(hr:q9 ops ms)(ht:pH P call fl ops ms k0 frs σs ps ft z){S:Nat->Prop}{fr:Gc}(hS:NM ops S)(hsl:pJ ops ps (frs 0) S fr){i:Nat}{o:Oper}(ho:ops[i]?=some o)(hni:¬S i)
  (hready:∀e∈o.after,Region.binds .any e=true->S e.on) {x:Nat} (hx:x∈o.looksAt ops):fr[x]?=(frs i)[x]?:=by
 refine hsl.agree hr (ht.zP hr i (yCx (pI ho))) λj oj hoj hd=>?_
 rcases Nat.lt_trichotomy j i with hlt|rfl|hgt
 .obtain⟨e,he,hb,heq⟩:=(hr.looks i o j oj x ho hoj Ah hd hx).1 hlt;exact⟨λ_=>hlt,λ_=>heq▸hready e he hb⟩
 .exact⟨λh=>absurd h hni,λh=>absurd h (yCR _)⟩
 .obtain⟨e,he,hb,heq⟩:=(hr.looks i o j oj x ho hoj Ah hd hx).2 hgt;exact⟨λh=>absurd (heq▸hS j oj h hoj e he hb) hni,λh=>absurd h Ah⟩
theorem aHY{fr fr':Gc}{o:Oper}(h:∀x∈o.looksAt ops,fr[x]?=fr'[x]?):∀x∈o.op.operands,aZ fr x=aZ fr' x:=by
 intro x hx;cases x with
 |tmp t=>
  have:t∈o.looksAt ops:=List.mem_append_left _ (yDK.2 ⟨.tmp t,Ct,rfl⟩);simp only[aZ,yAA,h t this]
 |_=>rfl
theorem aHZ{fr fr':Gc}{o:Oper}(h:∀x∈o.looksAt ops,fr[x]?=fr'[x]?):Region.wanted o (bR ops fr)=Region.wanted o (bR ops fr'):=by
 unfold Region.wanted;cases hg:o.guard with
 |none=>rfl
 |some gb=>
  obtain⟨g,b⟩:=gb;simp only;have:bR ops fr g=bR ops fr' g:=by
   unfold bR;cases hd:(ops[g]?).bind (·.dst)with
   |none=>rfl
   |some d=>
    have hm:d∈o.looksAt ops:=List.mem_append_right _ (by rw[hg];simp[hd]);simp only[h d hm]
  rw[this]
structure Inv (P:Program) (fl:Nat) (ops:Array Oper) (c0:Cx) (fS:List PD) (σs:Nat->List aB) (ps:Nat->PD) (df:List Deferred) (listed:Array Bool) (a:Act) (c:Cx) (fr:List PD) (b:Nat):Prop where
 size:listed.size=ops.size
 closed:NM ops (Lt listed)
 sr:Sr c
 nx:Nx fl c0 c
 σ:c.σ=σs b
 bN:b<=ops.size
 front:∀(j:Nat) (o:Oper),ops[j]?=some o->eG o.op=true->(Lt listed j↔j<b)
 D2:∀(i:Nat) (o:Oper) (t:TypeId),ops[i]?=some o->o.op=.alloc t->¬Lt listed i->¬c.D (c0.σ.length+gT ops.toList i)/\∃z,eR P t=some z/\z.cells.all PD.plain=true/\c.σ[c0.σ.length+gT ops.toList i]?=some (.box (boxed t z))
 zP:pJ ops ps fS (Lt listed) fr
 fr:FR c a fr
 df:a.defers=df
theorem NN{listed:Array Bool}{i j:Nat}(hi:i<listed.size):Lt (listed.setIfInBounds i true) j↔Lt listed j\/j=i:=by
 unfold Lt
 by_cases e:i=j
 .subst e;simp[hi]
 .rw[Array.getElem?_setIfInBounds_ne e];exact⟨.inl,λh=>h.elim id (λh=>absurd h.symm e)⟩
theorem Inv.step{c0:Cx}{fS:Gc}{df:List Deferred}{listed:Array Bool}{a:Act}{c:Cx}{fr:Gc}{b:Nat}(hr:q9 ops ms)(hi:Inv P fl ops c0 fS σs ps df listed a c fr b){i b':Nat}{o:Oper}(ho:ops[i]?=some o)
  (hready:∀e∈o.after,Region.binds .any e=true->Lt listed e.on) {c':Cx} {v:Value} (hs':Sr c') (nx':Nx fl c0 c') (dQ:c'.σ=σs b') (hb':b'<=ops.size)
  (hfront:∀(j:Nat) (o:Oper),ops[j]?=some o->eG o.op=true->((Lt listed j\/j=i)↔j<b'))
  (hholes:∀(j:Nat) (o:Oper) (t:TypeId),ops[j]?=some o->o.op=.alloc t->¬Lt listed j->j≠i->¬c'.D (c0.σ.length+gT ops.toList j)/\∃z,eR P t=some z/\z.cells.all PD.plain=true/\c'.σ[c0.σ.length+gT ops.toList j]?=some (.box (boxed t z)))
  (hf':FR c' a fr) (hv:VR c' v (ps i)):Inv P fl ops c0 fS σs ps df (listed.setIfInBounds i true) (a.put o.dst v) c' (bE fr o.dst (ps i)) b':=by
 have hlt:i<listed.size:=Fm;refine⟨by simpa using hi.size,?_,hs',nx',dQ,hb',?_,?_,?_,hf'.put hv _,?_⟩
 .intro j oj hj hoj e he hb;rw[NN hlt]at hj ⊢;rcases hj with hj|rfl
  .exact .inl (hi.closed j oj hj hoj e he hb)
  .rw[ho]at hoj;simp only[yAb]at hoj;subst hoj;exact .inl (hready e he hb)
 .intro j oj hoj hw;rw[NN hlt];exact hfront j oj hoj hw
 .intro j oj t hoj ht hn;rw[NN hlt]at hn;exact hholes j oj t hoj ht (λh=>hn (.inl h)) (λh=>hn (.inr h))
 .exact(hi.zP.put hr ho).congr λj=>(NN hlt).symm
 .rw[<-hi.df];cases o.dst<;>rfl
end
end
section
open Go.RowKit
theorem aBa{P:Program}{σ σ':Gb}{t:TypeId}{a p:PD}(h:p6 P σ t a=some p)(he:∀id,fU a=some id->σ'[id]?=σ[id]?):p6 P σ' t a=some p:=by
 unfold p6 at h ⊢;cases a<;>simp only at h ⊢<;>first|exact h|(simp at h;done)|skip
 .rename_i id off;rw[he id rfl];exact h
 .rename_i id ver off;rw[he id rfl];exact h
theorem aBb{P:Program}{σ:Gb}{t:TypeId}{a:PD}{id:Nat}{p:PD}(h:p6 P σ t a=some p)(ha:fU a=some id):id<σ.length:=by
 unfold p6 at h;cases a<;>simp only[fU,reduceCtorEq,yAb]at ha
 .subst ha;simp only at h;exact yf
 .cases h
 .subst ha;simp only at h;exact yf
theorem VR.aHT{c:Cx}{v:Value}{a:PD}{id:Nat}(h:VR c v a)(ha:fU a=some id):c.D id:=by
 cases a<;>simp only[fU,reduceCtorEq,yAb]at ha
 .subst ha;obtain⟨_,_,hd,_⟩:=h.tE;exact hd
 .subst ha;obtain⟨_,_,_,hd,_⟩:=h.D1;exact hd
 .subst ha;obtain⟨_,_,hd⟩:=h.GN;exact hd.1
theorem aHU{σ σ':Gb}{a:PD}{xs:Gc}(h:zO σ a=some xs)(he:∀id,fU a=some id->σ'[id]?=σ[id]?):zO σ' a=some xs:=by
 unfold zO at h ⊢;cases a<;>simp only at h ⊢<;>first|exact h|(simp at h;done)|skip
 rename_i id off n size;rw[he id rfl];exact h
theorem aBc{σ:Gb}{a:PD}{id:Nat}{xs:Gc}(h:zO σ a=some xs)(ha:fU a=some id):id<σ.length:=by
 unfold zO at h;cases a<;>simp only[fU,reduceCtorEq,yAb]at ha
 .cases h
 .subst ha;simp only at h;split at h
  .exact yf
  .exact ak
 .cases h
theorem SJ{P:Program}{σ:Gb}{s d:TypeId}{a p:PD}(h:BP P σ s d a=some p):∃xs,zO σ a=some xs:=by
 unfold BP at h;cases hx:zO σ a with
 |none=>rw[hx]at h;cases h
 |some xs=>exact⟨xs,rfl⟩
theorem aBd{P:Program}{σ σ':Gb}{s d:TypeId}{a p:PD}(h:BP P σ s d a=some p)(he:∀id,fU a=some id->σ'[id]?=σ[id]?):BP P σ' s d a=some p:=by
 obtain⟨xs,hx⟩:=SJ h;unfold BP at h ⊢;rw[aHU hx he];rw[hx]at h;exact h
section
variable{F:Fence}{P:Program}{call:dA}{fl n:Nat}{Q:Exit->Act->World->Prop}{ops:Gg}{frs:Nat->Gc}{σs:Nat->Gb}{ps:Nat->PD}{ft:Nat->Option Nat}{z:Nat->Bool}
 {c0:Cx} {df:List Deferred}
theorem aHV(hF:Open F P)(hc:Ok F P call)(hr:q9 ops (cN ops.toList []))(ht:pH P call fl ops (cN ops.toList []) c0.σ.length frs σs ps ft z)(hfeet:JG ops (cN ops.toList []) ft z σs)
  (hs0:Sr c0) (sF:Xw fl c0) {listed:Array Bool} {a:Act} {c:Cx} {fr:Gc} {b:Nat} (hi:Inv P fl ops c0 (frs 0) σs ps df listed a c fr b) {i:Nat} (hmem:i∈Region.ready .any ops listed) {K:Act->World->Prop}
  (hK:∀a' c' fr' b',Inv P fl ops c0 (frs 0) σs ps df (listed.setIfInBounds i true) a' c' fr' b'->K a' c'.w):wpOpIn F n P ops Q i K a c.w:=by
 obtain⟨hun,o,ho,aHW⟩:=mem_ready.1 hmem;have hlt:i<ops.size:=pI ho;have hni:¬Lt listed i:=by
  intro h;unfold Lt at h;rw[yCU,h]at hun;cases hun
 have hready:∀e∈o.after,Region.binds .any e=true->Lt listed e.on:=λe he hb=>by
  have:=aHW e he hb;rw[yCU]at this;unfold Lt;cases hx:listed[e.on]? with
  |none=>rw[hx]at this;cases this
  |some t=>rw[hx]at this;simp at this;rw[this]
 have agree:=λx hx=>aHX hr ht hi.closed hi.zP ho hni hready (x:=x) hx
 have ev:=aHY agree;have hlen:fr.length=(frs i).length:=hi.zP.len.trans (ht.zP hr i (yCx hlt)).len.symm;have hXc:Xw fl c:=sF.next hs0 hi.nx;have hXm:Xw (max fl c.σ.length) c:=λid g hd hle _ _ _=>absurd (hi.sr.bG id hd) Ah
 have frontN:eG o.op=false->∀(j:Nat) (oj:Oper),ops[j]?=some oj->eG oj.op=true->((Lt listed j\/j=i)↔j<b):=λhw j oj hoj hwj=>by
  have hne:j≠i:=by rintro rfl;rw[ho]at hoj;simp only[yAb]at hoj;subst hoj;rw[hw]at hwj;cases hwj
  rw[<-hi.front j oj hoj hwj];simp[hne]
 have wb:eG o.op=true->b<=i:=λhw=>by
  rcases yCh i b with h|h
  .exact absurd ((hi.front i o ho hw).2 h) hni
  .exact h
 have wlow:eG o.op=true->∀(j:Nat) (oj:Oper),ops[j]?=some oj->eG oj.op=true->j<i->Lt listed j:=λhw j oj hoj hwj hji=>
  aBe hr.down hi.closed ho hready (hr.ord i o j oj ho hoj hw hwj hji)
 have frontW:eG o.op=true->∀(j:Nat) (oj:Oper),ops[j]?=some oj->eG oj.op=true->((Lt listed j\/j=i)↔j<i+1):=λhw j oj hoj hwj=>by
  constructor
  .rintro(h|rfl)
   .have:=(hi.front j oj hoj hwj).1 h;have:=wb hw;omega
   .omega
  .intro h;rcases yCh j i with h' | h'
   .exact .inl (wlow hw j oj hoj hwj h')
   .exact .inr Ah
 have SK:eG o.op=true->c.σ=σs i:=λhw=>by
  have hle:=wb hw;rw[hi.σ];have:=ht.SM hr (i:=b) (i-b) Ah λj oj h1 h2 hoj=>by
   cases hwj:eG oj.op with
   |false=>rfl
   |true=>exact absurd ((hi.front j oj hoj hwj).1 (wlow hw j oj hoj hwj Ah)) Ah
  rw[show b+(i-b)=i by omega]at this;exact this.symm
 have D2:∀ {eJ:Nat} {c':Cx},Nx eJ c c'->∀(j:Nat) (oj:Oper) (t:TypeId),ops[j]?=some oj->oj.op=.alloc t->¬Lt listed j->j≠i ->
   ¬c'.D (c0.σ.length+gT ops.toList j)/\∃z,eR P t=some z/\z.cells.all PD.plain=true/\c'.σ[c0.σ.length+gT ops.toList j]?=some (.box (boxed t z)):=λnx j oj t hoj hot hnl _=>by
  obtain⟨hnd,z,h1,h2,h3⟩:=hi.D2 j oj t hoj hot hnl;have hl:=(yA.1 h3).1;exact⟨λhd=>(nx.new _ hd).elim hnd (λh=>Ah),z,h1,h2,(nx.hole _ hl hnd).trans h3⟩
 unfold wpOpIn;simp only[ho];rw[aBf hi.fr,aHZ agree];cases hw:Region.wanted o (bR ops (frs i))with
 |false=>
  obtain⟨hp,dQ⟩:=(ht i o ho).skip hw;simp only[yAx,yAN];refine⟨λf _=>hF.fn f,?_⟩;cases hW:eG o.op with
  |false=>exact hK _ c _ b (hi.step hr ho hready hi.sr hi.nx hi.σ hi.bN (frontN hW) (D2 (.refl 0 c)) hi.fr (by rw[hp];exact VR.undef c))
  |true=>exact hK _ c _ (i+1) (hi.step hr ho hready hi.sr hi.nx ((SK hW).trans dQ.symm) hlt (frontW hW) (D2 (.refl 0 c)) hi.fr (by rw[hp];exact VR.undef c))
 |true=>
  obtain⟨hrun,hfoot⟩:=(ht i o ho).run hw;simp only[yAL];have gen:∀(eJ b':Nat) (σ1:List aB),fl<=eJ->Xw eJ c->cT P call eJ fr c.σ o.op=some (ps i,σ1)->(∀c',Nx eJ c c'->c'.σ=σ1->c'.σ=σs b')->b'<=ops.size ->
    (∀(j:Nat) (oj:Oper),ops[j]?=some oj->eG oj.op=true->((Lt listed j\/j=i)↔j<b'))->o.wpIn F n P a c.w K Q:=by
   intro eJ b' σ1 hle hX' hst aH0 hb' hfront;refine aBg hF hc hi.sr hX' hi.fr hst λv w' hl=>?_
   obtain⟨c',rfl,e,hs',nx,hv,_⟩:=hl;exact hK _ c' _ b' (hi.step hr ho hready hs' (hi.nx.trans (nx.weaken hle)) (aH0 c' nx e) hb' hfront (D2 nx) (hi.fr.mono nx) hv)
  unfold l6 at hrun
  by_cases hA:iF o.op=true
  .obtain⟨hpc,_,hW,_⟩:=aAZ (fr:=fr) hA;rw[yAJ hA]at hrun;split at hrun
   .rename_i p hp;simp only[yAb,yAc]at hrun;obtain⟨rfl,_⟩:=hrun;refine gen fl b c.σ (yAk _) hXc ?_ (λc' _ e=>e.trans hi.σ) hi.bN (frontN hW);unfold cT pop;rw[hpc,aBh _ ev,hp]
   .simp at hrun
  .simp only[yCw]at hA;rw[hA]at hrun;simp only[yAx,yAN]at hrun
   by_cases hB:dF o.op=true
   .obtain⟨_,hW,_,t,hop⟩:=aH1 hB;rw[yAJ hB]at hrun;simp only[yAb,yAc]at hrun;obtain⟨hp,_⟩:=hrun;obtain⟨hnd,z,hz,hpl,hbox⟩:=hi.D2 i o t ho hop hni;obtain⟨zv,inf,hinf,hzv,hzr⟩:=D3 (c:=c) hz;have oE:=(SN (P:=P) (fl:=fl) hi.sr (NI hz hinf hzv t) (aV.xT hzr.cells hpl) t (λt' ds e=>NJ hzr e)).1;have hrun:(execOp a.eval o).run P c.w=.ok (.value (.pointer (some ⟨c.w.heap.size,0,none⟩))) (c.w.alloc (.cells zv.cells t)):=by
     obtain⟨dst,op,ty,pos,after,guard⟩:=o;simp only at hop;subst hop;simp[execOp,Instr.alloc,zeroValue,typeInfo,hinf,hzv,oE]
    refine⟨λf _=>hF.fn f,?_⟩;rw[Oper.semAt_eq _ _ _ (by rw[hop];intro d e;cases e),hrun];have hg:c.w.grownBy (c.w.alloc (.cells zv.cells t)) none:=xS _ _;have iN:∀b',bA (.pointer (some ⟨c.w.heap.size,0,none⟩))=some b'->c.w.heap.size<=b':=λb' hb=>En
    have hnv:Nv c (c.nT (c.w.alloc (.cells zv.cells t)) (c0.σ.length+gT ops.toList i) (.pointer (some ⟨c.w.heap.size,0,none⟩))):=Nv.nT hnd hbox hg iN;refine hK _ (c.nT (c.w.alloc (.cells zv.cells t)) (c0.σ.length+gT ops.toList i) (.pointer (some ⟨c.w.heap.size,0,none⟩))) _ b
     (hi.step hr ho hready (hi.sr.nT hnd hbox hg (yAk _) (yBZ _ _) (NI hz hinf hzv t) ⟨aV.xT hzr.cells hpl,λt' ds e=>NJ hzr e⟩) (hi.nx.nT hnd hbox hg iN Ah) hi.σ hi.bN (frontN hW) ?_ ⟨aV.nU hnv hi.fr.1,(hi.sr.nT hnd hbox hg (yAk _) (yBZ _ _) (NI hz hinf hzv t) ⟨aV.xT hzr.cells hpl,λt' ds e=>NJ hzr e⟩).jQ⟩ ?_)
    .intro j oj t' hoj hot hnl hne;obtain⟨aH2,z',h1,h2,h3⟩:=hi.D2 j oj t' hoj hot hnl;refine⟨λhd=>?_,z',h1,h2,h3⟩;rcases hd with hd|hd
     .exact aH2 hd
     .exact aH3 (l:=ops.toList) (by simpa using hoj) Cu (by rw[hot];rfl) hB hne Ah
    .rw[<-hp];exact .ptr _ _ _ (.inr rfl) ⟨_,hbox⟩ BQ
   .simp only[yCw]at hB;rw[hB]at hrun;simp only[yAx,yAN]at hrun
    by_cases hM:eM o.op=true
    .have hW:eG o.op=true:=by simp[eG,hM]
     have dQ:=SK hW;rw[hM]at hrun;cases hfree:z i with
     |true=>
      rw[hfree]at hrun;simp only[yBJ,Bool.and_false,yAx,yAN,yAL]at hrun;refine gen fl (i+1) (σs (i+1)) (yAk _) hXc ?_ (λc' _ e=>e) hlt (frontW hW);rw[aBi hlen _ ev,dQ];exact hrun
     |false=>
      rw[hfree]at hrun;simp only[yCm,yCn,yAL]at hrun;split at hrun
      .rename_i p σ1 hst;simp only[yAb,yAc]at hrun;obtain⟨rfl,aH4⟩:=hrun;refine gen (max fl c.σ.length) (i+1) σ1 Ah hXm ?_ (λc' nx e=>?_) hlt (frontW hW)
       .rw[aBi hlen _ ev,dQ];exact hst
       .rw[<-aH4,<-e,<-dQ];refine yCo λid=>?_
        rcases yCh id c.σ.length with h|h
        .rw[yAg h];exact nx.ro id Ah h
        .rw[yBS h,yBn]
         congr 1;omega
      .simp at hrun
    .simp only[yCw]at hM;rw[hM]at hrun;simp only[yBa,yAx,yAN]at hrun;have hsh:=hr.shape i o ho;simp only[hA,hB,eG,hM,yCc,yDI,yBR]at hsh
     by_cases hst:iP o.op=true
     .have hW:eG o.op=true:=by simp[eG,hst]
      obtain⟨iN,JH,_⟩:=JB (P:=P) (fr:=fr) (.inr (.inr hst));refine gen fl (i+1) (σs (i+1)) (yAk _) hXc ?_ (λc' _ e=>e) hlt (frontW hW);unfold cT pop;rw[JH,iN];simp only;rw[NK hlen _ ev,SK hW];exact hrun
     .have hW:eG o.op=false:=by simp[eG,hM,hst]
      by_cases hL:fB o.op=true
      .obtain⟨iN,JH,_⟩:=JB (P:=P) (fr:=fr) (.inl hL);refine gen fl b c.σ (yAk _) hXc ?_ (λc' _ e=>e.trans hi.σ) hi.bN (frontN hW);unfold cT pop;rw[JH,iN];simp only;rw[NK hlen _ ev];obtain⟨dst,op,ty,pos,after,guard⟩:=o;have aBj:∀x ad,op.operands=#[x]->aZ (frs i) x=some ad->(lK (frs i) op=fU ad)->(∀id,fU ad=some id->id<(σs i).length)->∀id,fU ad=some id->c.σ[id]?=(σs i)[id]?:=by
        intro x ad hopx had hfe hltA id hida;have hfid:ft i=some id:=by rw[hfoot,hfe,hida]
        rcases yCh i b with hib|hbi
        .have h1:=(ht.SO hr hfeet ho hL hfid (m:=i) (b-i) (by have:=hi.bN;omega) (λk ok h1 h2 hok hwk=>by
          have hk:Lt listed k:=(hi.front k ok hok hwk).2 Ah;unfold loose;simp only[yAr,yBI,];refine⟨?_,?_⟩
          .cases hx:((cN ops.toList []).getD i 0).testBit k with
           |false=>rfl
           |true=>exact absurd (aBk hr.down i k hx) Ah
          .cases hx:((cN ops.toList []).getD k 0).testBit i with
           |false=>rfl
           |true=>exact absurd (aBl hr.down hi.closed k i hk hx) hni) (hltA id hida)).1
         rw[show i+(b-i)=b by omega]at h1;rw[hi.σ];exact h1
        .have hd:id<(σs b).length:=by
          have hev:aZ fr x=some ad:=by
           rw[ev x (by rw[hopx];simp)];exact had
          have hd:=(eC hi.fr hev).aHT hida;rw[<-hi.σ];exact hi.sr.bG id hd
         have h1:=(ht.SO hr hfeet ho hL hfid (m:=b) (i-b) Ah (λk ok h1 h2 hok hwk=>by
          have hk:¬Lt listed k:=λhk=>absurd ((hi.front k ok hok hwk).1 hk) Ah
          unfold loose;simp only[yAr,yBI,];refine⟨?_,?_⟩
          .cases hx:((cN ops.toList []).getD i 0).testBit k with
           |false=>rfl
           |true=>exact absurd (aBe hr.down hi.closed ho hready hx) hk
          .cases hx:((cN ops.toList []).getD k 0).testBit i with
           |false=>rfl
           |true=>exact absurd (aBk hr.down k i hx) Ah) hd).1
         rw[show b+(i-b)=i by omega]at h1;rw[hi.σ];exact h1.symm
       by_cases hcv:∃s d x,op=.convert s d x
       .obtain⟨s,d,x,rfl⟩:=hcv;simp only[dE]at hrun ⊢;split at hrun
        .rename_i htc;rw[yAJ htc];split at hrun
         .rename_i ad had;split at hrun
          .exact vp
          .split at hrun
           .rename_i p hp;obtain⟨xs,hxs⟩:=SJ hp;rw[aBd hp (aBj x ad rfl had (by simp only[lK,had]) (λid=>aBc hxs))];exact vp
           .cases hrun
         .cases hrun
        .cases hrun
       obtain⟨t,x,rfl⟩:∃t x,op=.load t x:=by cases op<;>simp[fB]at hL hcv ⊢
       simp only[dE]at hrun ⊢;split at hrun
       .rename_i ad had;split at hrun
        .rename_i p hp;simp only[yAb,yAc]at hrun;obtain⟨rfl,_⟩:=hrun;have hkeep:∀id,fU ad=some id->c.σ[id]?=(σs i)[id]?:=aBj x ad rfl had (by simp only[lK,had]) (λid=>aBb hp);rw[aBa hp hkeep]
        .simp at hrun
       .simp at hrun
      .have hS:qB o.op=true:=by simpa [hL,hst]using hsh
       obtain⟨iN,JH,_⟩:=JB (P:=P) (fr:=fr) (.inr (.inl hS));refine gen fl b c.σ (yAk _) hXc ?_ (λc' _ e=>e.trans hi.σ) hi.bN (frontN hW);unfold cT pop;rw[JH,iN];simp only;rw[NK hlen _ ev];obtain⟨dst,op,ty,pos,after,guard⟩:=o
       by_cases hmk:∃t x y,op=.makeSlice t x y
       .obtain⟨t,x,y,rfl⟩:=hmk;obtain⟨q,hq⟩:=SR (P:=P) hS;simp only[hq]at hrun ⊢;cases q with
        |none=>cases hrun
        |some q=>
         simp only[yAC,yAb,yAc]at hrun ⊢;exact⟨hrun.1,trivial⟩
       obtain⟨t,ln,parts,rfl⟩:∃t ln parts,op=.buildSlice t ln parts:=by cases op<;>simp[qB]at hS hmk ⊢
       simp only[dE]at hrun ⊢;split at hrun
       .rename_i qs hqs;split at hrun
        .rename_i p hp;simp only[yAb,yAc]at hrun;obtain⟨rfl,_⟩:=hrun;rfl
        .simp at hrun
       .simp at hrun
theorem aH5(hr:q9 ops (cN ops.toList []))(ht:pH P call fl ops (cN ops.toList []) c0.σ.length frs σs ps ft z){listed:Array Bool}{a:Act}{c:Cx}{fr:Gc}{b:Nat}(hi:Inv P fl ops c0 (frs 0) σs ps df listed a c fr b)
  (hnil:Region.ready .any ops listed=[]):c.σ=σs ops.size/\fr=frs ops.size:=by
 have hall:∀i,i<ops.size->Lt listed i:=by
  intro i
  induction i using Nat.strongRecOn with
  |_ i ih=>
   intro hlt;have ho:ops[i]?=some ops[i]:=yCy hlt;have hls:i<listed.size:=by rw[hi.size];exact hlt
   cases hb:listed[i]with
   |true=>unfold Lt;rw[yCy hls,hb]
   |false=>
    have:i∈Region.ready .any ops listed:=mem_ready.2 ⟨by rw[yCU,yCy hls,hb];rfl,_,ho,λe he hbd=>by
     have hd:=hr.down i _ ho e he hbd;have:=ih e.on hd Ah;unfold Lt at this;rw[yCU,this];rfl⟩
    rw[hnil]at this;cases this
 constructor
 .rw[hi.σ];have:=ht.SM hr (i:=b) (ops.size-b) (by have:=hi.bN;omega) λj oj h1 h2 hoj=>by
   cases hwj:eG oj.op with
   |false=>rfl
   |true=>exact absurd ((hi.front j oj hoj hwj).1 (hall j (pI hoj))) Ah
  rw[show b+(ops.size-b)=ops.size by have:=hi.bN;omega]at this;exact this.symm
 .exact hi.zP.same hr (ht.zP hr ops.size (yAk _)) λj o hoj=>⟨λ_=>pI hoj,λh=>hall j h⟩
theorem aH6(hF:Open F P)(hc:Ok F P call)(hr:q9 ops (cN ops.toList []))(ht:pH P call fl ops (cN ops.toList []) c0.σ.length frs σs ps ft z)(hfeet:JG ops (cN ops.toList []) ft z σs)
  (hs0:Sr c0) (sF:Xw fl c0) (hQ:∀c' a',c'.σ=σs ops.size->Sr c'->Nx fl c0 c'->FR c' a' (frs ops.size)->a'.defers=df->Q .normal a' c'.w) :
  ∀(fuel:Nat) (listed:Array Bool) (a:Act) (c:Cx) (fr:List PD) (b:Nat),Inv P fl ops c0 (frs 0) σs ps df listed a c fr b->listed.toList.countP (·==false)<=fuel->wpAnyIn F n P .any ops Q fuel listed a c.w:=by
 have done:∀(listed:Array Bool) (a:Act) (c:Cx) (fr:List PD) (b:Nat),Inv P fl ops c0 (frs 0) σs ps df listed a c fr b->Region.ready .any ops listed=[]->Q .normal a c.w:=by
  intro listed a c fr b hi hnil;obtain⟨e1,e2⟩:=aH5 hr ht hi hnil;exact hQ c a e1 hi.sr hi.nx (e2▸hi.fr) hi.df
 intro fuel
 induction fuel with
 |zero=>
  intro listed a c fr b hi hn;have h0:∀x∈listed.toList,¬(x==false)=true:=List.countP_eq_zero.1 (yCV.1 hn);have hnil:Region.ready .any ops listed=[]:=by
   apply List.eq_nil_iff_forall_not_mem.2;intro i hm;obtain⟨hun,o,ho,_⟩:=mem_ready.1 hm;have hls:i<listed.size:=Fm;rw[yCU,yCy hls]at hun;exact h0 _ (yCf.2 (Array.getElem_mem hls)) (by simpa using hun)
  exact⟨hnil,done listed a c fr b hi hnil⟩
 |succ fuel ih=>
  intro listed a c fr b hi hn;refine⟨done listed a c fr b hi,λi hm=>aHV hF hc hr ht hfeet hs0 sF hi hm λa' c' fr' b' hi'=>ih _ a' c' fr' b' hi' ?_⟩;obtain⟨hun,o,ho,_⟩:=mem_ready.1 hm;have hls:i<listed.size:=Fm;have hli:i<listed.toList.length:=by simpa using hls
  rw[yCU,yCy hls]at hun;simp only[yDk]at hun;rw[yE,List.countP_set hli];have hpos:0<listed.toList.countP (·==false):=List.countP_pos_iff.2 ⟨listed[i],yCf.2 (Array.getElem_mem hls),by simp[hun]⟩;have e:listed.toList[i]=false:=by simpa using hun
  rw[e];simp only[beq_self_eq_true,yAL,show(true==false)=false from rfl,yAx,yAN];omega
theorem aBm(hF:Open F P)(hc:Ok F P call){a:Act}{fr fr':Gc}{σ' hst:Gb}(hs:Sr c0)(hX:Xw fl c0)(hf:FR c0 a fr)(hr:q9 ops (cN ops.toList []))(hho:nQ P ops.toList=some hst)
  {frs:Nat->Gc} {σs:Nat->Gb} {ps:Nat->PD} {ft:Nat->Option Nat} {z:Nat->Bool} (e1:frs 0=fr) (e2:σs 0=c0.σ++hst) (e3:frs ops.size=fr') (e4:σs ops.size=σ')
  (ht:pH P call fl ops (cN ops.toList []) c0.σ.length frs σs ps ft z) (hfeet:JG ops (cN ops.toList []) ft z σs)
  (hQ:∀c' a',c'.σ=σ'->Sr c'->Nx fl c0 c'->FR c' a' fr'->a'.defers=a.defers->Q .normal a' c'.w):wpAnyIn F n P .any ops Q ops.size (Array.replicate ops.size false) a c0.w:=by
 have hs':=hs.ahead hst;refine aH6 (df:=a.defers) hF hc hr ht hfeet hs hX (λc' a' h1 h2 h3 h4 h5=>hQ c' a' (h1.trans e4) h2 h3 (e3▸h4) h5) ops.size _ a (c0.ahead hst) fr 0 ?_ ?_
 .refine⟨Ai,?_,hs',Nx.ahead hs hst,e2.symm,yAF _,?_,?_,?_,FR.mono (Nx.ahead (fl:=0) hs hst) hf,rfl⟩
  .intro i o hi;unfold Lt at hi;rw[yEa]at hi;split at hi<;>simp at hi
  .intro j o _ _;unfold Lt;rw[yEa];split<;>simp
  .intro i o t ho hot _;obtain⟨z,h1,h2,h3⟩:=SS hho i o t Cu hot;refine⟨λhd=>absurd (hs.bG _ hd) Ah,z,h1,h2,?_⟩;show(c0.σ++hst)[_]?=_
   rw[yBS Ah,show c0.σ.length+gT ops.toList i-c0.σ.length=gT ops.toList i by omega];exact h3
  .rw[<-e1];refine .start λj hj=>?_
   unfold Lt at hj;rw[yEa]at hj;split at hj<;>simp at hj
 .exact yAV List.countP_le_length Ai
theorem aBn{tr:List TE}{ft:Nat->Option Nat}(hfo:pE ops.toList (cN ops.toList []) tr=true)(hft:∀j,0<=j->j<ops.size->ft j=(tr[j-0]?).bind TE.iZ) :
  ∀(k i:Nat) (ok oi:Oper),ops[k]?=some ok->ops[i]?=some oi->iP ok.op=true->fB oi.op=true->loose (cN ops.toList []) i k=true->∀a b,ft i=some a->ft k=some b->a≠b:=by
 intro k i ok oi GO hoi hsk hli hloose x y hx hy;simp only[pE,yAn,yAX]at hfo;have h1:=hfo k (by simpa using pI GO);rw[NL GO,hsk]at h1;simp only[yBJ,yCc,yAn,yAX]at h1;have h2:=h1 i (by simpa using pI hoi);rw[NL hoi,hli,hloose]at h2;have hxi:=hft i (yAF _) (pI hoi);have hyk:=hft k (yAF _) (pI GO);simp only[yCW]at hxi hyk;rw[<-hxi,<-hyk,hx,hy]at h2;simpa using h2
theorem aHO(hF:Open F P)(hc:Ok F P call){a:Act}{fr fr':Gc}{σ':Gb}(hs:Sr c0)(hX:Xw fl c0)(hf:FR c0 a fr)(h:nS P call fl ops fr c0.σ=some (fr',σ'))
  (hQ:∀c' a',c'.σ=σ'->Sr c'->Nx fl c0 c'->FR c' a' fr'->a'.defers=a.defers->Q .normal a' c'.w):wpAnyIn F n P .any ops Q ops.size (Array.replicate ops.size false) a c0.w:=by
 unfold nS at h;split at h
 .rename_i x h;simp only[yAb]at h;subst h;rename_i h;unfold oV at h;simp only at h;split at h
  .rename_i hok;have hr:=DU hok;split at h
   .rename_i hst hho;split at h
    .rename_i tr aS σ1 hops;split at h
     .rename_i hfo;simp only[yAb,yAc]at h;obtain⟨rfl,rfl⟩:=h;obtain⟨frs,σs,ps,ft,e1,e2,e3,e4,htr,hft⟩:=aH7 (k0:=c0.σ.length) ops.toList 0 _ _ _ _ _ _ Ai (by simp[gT]) hops;simp only[yAp,yBj]at e3 e4 hft;have ht:pH P call fl ops (cN ops.toList []) c0.σ.length frs σs ps ft (λi=>kI ops.toList (cN ops.toList []) i):=λi o ho=>htr i o (yAF _) ho
      refine aBm hF hc hs hX hf hr hho e1 e2 e3 e4 ht ⟨aBn hfo hft,?_⟩ hQ;intro k i ok oi id GO hoi hmk hli hlo hz _;simp only[kI,yAn,yAX]at hz;have:=hz i (by simpa using pI hoi);rw[NL hoi,hli,hlo]at this;simp at this
     .exact ak
    .exact ak
   .exact ak
  .exact ak
 .split at h
  .rename_i hok;have hr:=DU hok;split at h
   .rename_i hst hho;split at h
    .rename_i tr aS σ1 hops;split at h
     .rename_i hfo;obtain⟨hfo,hkp⟩:=hfo;simp only[yAb,yAc]at h;obtain⟨rfl,rfl⟩:=h;obtain⟨frs,σs,ps,ft,e1,e2,e3,e4,htr,hft,aBo⟩:=aH8 (k0:=c0.σ.length) (ms:=cN ops.toList []) ops.toList 0 _ _ _ _ _ _ Ai (by simp[gT]) hops;simp only[yAp,yBj]at e3 e4 hft;have ht:pH P call fl ops (cN ops.toList []) c0.σ.length frs σs ps ft (λ_=>true):=λi o ho=>htr i o (yAF _) ho
      refine aBm hF hc hs hX hf hr hho e1 e2 e3 e4 ht ⟨aBn hfo hft,?_⟩ hQ;intro k i ok oi id GO hoi hmk hli hlo _ hid;have aH9:(tr[i]?).bind TE.iZ=some id:=by
       have:=hft i (yAF _) (pI hoi);rw[yCW]at this;rw[<-this,hid]
      have:=hkp k i id ok oi (by simpa using GO) (by simpa using hoi) hmk hli hlo aH9;have h1:=aBo k (yAF _);have h2:=aBo (k+1) (yAF _);simp only[yCW]at h1 h2;rw[h1,h2];exact this
     .exact ak
    .exact ak
   .exact ak
  .exact ak
end
end
section
open Go.RowKit
section
variable{F:Fence}{n:Nat}{P:Program}{Q:Exit->Act->World->Prop}{a:Act}{w:World}
def zN(F:Fence)(n:Nat)(P:Program)(c:Code)(Q:Exit->Act->World->Prop)(a:Act)(w:World):Prop:=
 ∀(b:Frame) (k:List Item) (cs:List Frame),b.roundOf=F.round->F.fn b.fn->F.room (cs.length+1+n) ->
  ∃e a' w',Q e a' w'/\ArrivesIn (Machine.fenced P F) P (lone (b.atR a (.code c::.inLoop c::k)) cs w) b k cs e a' w'
theorem zN.wpIn{c:Code}(h:zN F n P c Q a w):(Code.loop c).wpIn F n P Q a w:=λb k cs hro hb hr=>
 let ⟨e,a',w',q,r⟩:=h b k cs hro hb hr;⟨e,a',w',q,.of_steps (.one (fenced_calm hb hr rfl) stepR_loop) r⟩
theorem zN.round{c:Code}(h:c.wpIn F n P (Exit.then (zN F n P c Q) Q) a w):zN F n P c Q a w:=by
 intro b k cs hro hb hr;obtain⟨e,a₁,w₁,hq,harr⟩:=h b (.inLoop c::k) cs hro hb hr;cases e with
 |normal=>
  obtain⟨e₂,a₂,w₂,hq₂,harr₂⟩:=hq b k cs hro hb hr;exact⟨e₂,a₂,w₂,hq₂,.of_steps (StepsIn.trans harr (.one (fenced_calm hb hr rfl) stepR_inLoop)) harr₂⟩
 |exit id=>exact⟨_,a₁,w₁,hq,.pass (x:=.inLoop c) rfl (λ_ _=>.inl Ai) harr⟩
 |goto l=>exact⟨_,a₁,w₁,hq,.pass (x:=.inLoop c) rfl (λ_ _=>.inl Ai) harr⟩
 |ret=>exact⟨_,a₁,w₁,hq,.pass (x:=.inLoop c) rfl (λ_ _=>.inl Ai) harr⟩
 |panic ch=>exact⟨_,a₁,w₁,hq,.pass (x:=.inLoop c) rfl (λ_ _=>.inl Ai) harr⟩
 |outgrown=>exact⟨_,a₁,w₁,hq,.pass (x:=.inLoop c) rfl (λ_ _=>.inl Ai) harr⟩
def qC(F:Fence)(n:Nat)(P:Program)(c:Code)(Q:Exit->Act->World->Prop)(a:Act)(w:World):Prop:=
 match c with
 |.loop b=>zN F n P b Q a w
 |c=>c.wpIn F n P Q a w
theorem qC.wpIn{c:Code}(h:qC F n P c Q a w):c.wpIn F n P Q a w:=by
 unfold qC at h;split at h
 .exact zN.wpIn h
 .exact h
end
def MR(c:Cx):List Deferred->List Nat->Prop
 | [],[]=>True
 |d::ds,m::ms=>(∃b,d.target=.collected b/\c.D m/\lI c.σ[m]?/\c.ρ m=.pointer (some ⟨b,0,none⟩))/\MR c ds ms
 |_,_=>False
theorem MR.mono{fl:Nat}{c c':Cx}(nx:Nx fl c c'):∀ {ds:List Deferred} {ms:List Nat},MR c ds ms->MR c' ds ms
 | [],[],_=>trivial
 |d::ds,m::ms,h=>by
  obtain⟨⟨b,h1,h2,h3,h4⟩,h5⟩:=h;obtain⟨e,k⟩:=nx.nE m h2 h3;exact⟨⟨b,h1,nx.bG m h2,k,e.trans h4⟩,MR.mono nx h5⟩
 | [],_::_,h=>h.elim
 |_::_,[],h=>h.elim
def BN(F:Fence)(c:Cx):Option Nat->Prop
 |none=>F.round=none
 |some id=>∃l,F.round=some l/\c.D id/\lI c.σ[id]?/\c.ρ id=.pointer (some ⟨l,0,none⟩)
theorem BN.mono{fl:Nat}{F:Fence}{c c':Cx}(nx:Nx fl c c'){rd:Option Nat}(h:BN F c rd):BN F c' rd:=by
 cases rd with
 |none=>exact h
 |some id=>
  obtain⟨l,h1,h2,h3,h4⟩:=h;obtain⟨e,k⟩:=nx.nE id h2 h3;exact⟨l,h1,nx.bG id h2,k,e.trans h4⟩
def SE(P:Program)(code:tD):Prop:=
 ∀ {F:Fence} {rd:Option Nat} {c:Code} {fl:Nat} {fr:Gc} {ms:List Nat} {cx:Cx} {r:PO} {a:Act},Open F P->code rd c fl fr ms cx.σ=some r->Sr cx->Xw fl cx->FR cx a fr->MR cx a.defers ms->BN F cx rd ->
   ∀(m:Nat) (Q:Exit->Act->World->Prop),(∀lJ a',lJ.σ=r.σ->Sr lJ->Nx fl cx lJ->FR lJ a' r.fr->MR lJ a'.defers r.ms->Q r.x.JC a' lJ.w)->qC F m P c Q a cx.w
section
variable{P:Program}{c:Cx}{fl:Nat}
theorem aHS(hs:Sr c){a:Act}{fr:Gc}(hf:FR c a fr){rv:ResultVar}{p:PD}(h:BJ P fr c.σ rv=some p) :
  ∃v,((match rv with|.tmp t=>pure (a.tmps.getD t undef)|.cell x t=>do loadVar t (<-asAddr (a.tmps.getD x undef)):Sem Value)).run P c.w=.ok v c.w/\VR c v p:=by
 cases rv with
 |tmp t=>
  simp only[BJ,yAb]at h;subst h;exact⟨_,rfl,hf.tmp t⟩
 |cell x t=>
  simp only[BJ]at h;split at h
  .rename_i id off hid;have hv:=hf.tmp x;rw[hid]at hv;obtain⟨v,r,q⟩:=aA8 (P:=P) hs h hv;obtain⟨b,e,_⟩:=hv.tE;refine⟨v,?_,q⟩;rw[e]at r;simp only[e,asAddr];simpa [Instr.loadAt,Instr.sureAddr]using r
  .exact ak
theorem aA9(hs:Sr c){a:Act}{fr:Gc}(hf:FR c a fr){f:ResultVar->Sem Value}(hfn:∀(rv:ResultVar) (p:PD),BJ P fr c.σ rv=some p->∃v,(f rv).run P c.w=.ok v c.w/\VR c v p):∀ {l:List ResultVar} {qs:Gc},xP P fr c.σ l=some qs ->
  ∃vs:List Value,(l.mapM f).run P c.w=.ok vs c.w/\aV c vs qs
 | [],qs,h=>by
   simp only[xP,yAb]at h;subst h;exact⟨[],by simp[List.mapM_nil],rfl,Ai⟩
 |rv::l,qs,h=>by
  simp only[xP]at h;split at h
  .rename_i p ps h1 h2;simp only[yAb]at h;subst h;obtain⟨v,r,hv⟩:=hfn rv p h1;obtain⟨vs,rs,hvs⟩:=aA9 hs hf hfn h2;refine⟨v::vs,by simp[List.mapM_cons,yAZ,r,rs,Result.andThen],by simpa using hvs.1,λi u d hu hd=>?_⟩;cases i with
   |zero=>simp at hu hd;subst hu hd;exact hv
   |succ i=>exact hvs.2 i u d Fe Fb
  .exact ak
theorem aHR(hs:Sr c){a:Act}{fr:Gc}(hf:FR c a fr){fn:Func}{qs:Gc}(h:xP P fr c.σ fn.results.toList=some qs):∃v,(results fn a.tmps).run P c.w=.ok v c.w/\VR c v (DR qs):=by
 obtain⟨vs,r,hv⟩:=aA9 hs hf (λrv p=>aHS hs hf) h;unfold results;rw[Array.mapM_eq_mapM_toList];rw[map_eq_pure_bind];simp only[yAZ]
 generalize hg:Sem.run P (List.mapM _ fn.results.toList) c.w=res
 have e:res=.ok vs c.w:=hg.symm.trans r;subst e;simp only[Result.andThen,yBm];have hl:=hv.1
 by_cases h1:vs.length=1
 .obtain⟨v,rfl⟩:∃v,vs=[v]:=by
   match vs,h1 with
   | [v],_=>exact⟨v,rfl⟩
  obtain⟨p,rfl⟩:∃p,qs=[p]:=by
   match qs,hl with
   | [p],_=>exact⟨p,rfl⟩
  exact⟨v,Ai,hv.2 0 v p rfl rfl⟩
 .have e:DR qs=.aI qs:=by
   match qs,hl with
   | [],_=>rfl
   | [p],hl=>exact absurd hl h1
   |_::_::_,_=>rfl
  rw[e];refine⟨.tuple vs.toArray,?_,.aI vs qs hv.1 hv.2⟩;rw[dif_neg Ca]
end
end
section
open Go.RowKit
section
variable{P:Program}{fl:Nat}
theorem aA3{b b':Nat}(h:Value.pointer (some ⟨b,0,none⟩)=Value.pointer (some ⟨b',0,none⟩)):b=b':=Bh
theorem aA4{F:Fence}{n:Nat}{fn:Func}{tmps:Gf}{R:Ending->World->Prop}:∀(ms:List Nat) (ds:List Deferred) (c:Cx) (σ':List aB),uP fl ms c.σ=some σ'->Sr c->MR c ds ms ->
  (∀c',c'.σ=σ'->Sr c'->Nx fl c c'->LeavesInM F n P fn tmps R [] .returning c'.w)->LeavesInM F n P fn tmps R ds .returning c.w
 | [],[],c,σ',h,hs,_,hR=>by
   simp only[uP,yAb]at h;exact hR c h hs (.refl _ _)
 |m::ms,d::ds,c,σ',h,hs,hm,hR=>by
  obtain⟨⟨b,h1,h2,h3,h4⟩,h5⟩:=hm;simp only[uP]at h;split at h
  .rename_i hfl;split at h
   .rename_i hmk;obtain⟨b',e1,e2⟩:=hs.mark m h2 hmk;have e:=aA3 (h4.symm.trans e1);subst e;have nx:Nx fl c (c.put (c.w.putObj b (.deferred none)) m (c.ρ m) .none):=Nx.uR hs h2 hmk trivial trivial (by rw[h4];rfl) hfl e2 Ai;have hs':Sr (c.put (c.w.putObj b (.deferred none)) m (c.ρ m) .none):=Sr.uR hs h2 hmk trivial trivial (by rw[h4];rfl) e2 Ai trivial;refine⟨Ai,.inl ⟨b,c.w.putObj b (.deferred none),h1,run_takeDeferred e2,?_⟩⟩;exact aA4 ms ds _ σ' h hs' (h5.mono nx) (λc' q1 q2 q3=>hR c' q1 q2 (nx.trans q3))
   .exact ak
  .exact ak
 | [],_::_,_,_,_,_,hm,_=>hm.elim
 |_::_,[],_,_,_,_,hm,_=>hm.elim
theorem Leaves.of{c c':Cx}{p:PD}{v:Value}(hs:Sr c')(nx:Nx fl c c')(hv:VR c' v p):Leaves fl c p c'.σ v c'.w:=
 ⟨c',rfl,rfl,hs,nx,hv,λid hd=>(nx.new id hd).imp (λh=>h) (λh=>⟨h,hs.bG id hd⟩)⟩
theorem aA5{c:Cx}:∀(ts:List Tmp) (vs:List Value) (ps:List PD) (a:List Value) (fr:List PD),aV c vs ps->aV c a fr->ts.length=vs.length->aV c ((ts.zip vs).foldl (λtmps x=>tmps.set x.1 x.2) a) (uM fr ts ps)
 | [],_,_,a,fr,_,h,_=>by simpa [uM]using h
 |t::ts,[],_,_,_,_,_,hl=>by simp at hl
 |t::ts,v::vs,[],_,_,hv,_,_=>by have:=hv.1;simp at this
 |t::ts,v::vs,p::ps,a,fr,hv,h,hl=>by
  simp only[List.zip_cons_cons,yDm,uM];refine aA5 ts vs ps _ _ ⟨by simpa using hv.1,λi u d hu hd=>hv.2 (i+1) u d Fe Fb⟩ ⟨by simpa using h.1,λi u d hu hd=>?_⟩ Cq;rw[yCT]at hu hd
  by_cases e:t=i
  .subst e;simp only[yAL]at hu hd;split at hu
   .split at hd
    .simp only[yAb]at hu hd;subst hu hd;exact hv.2 0 _ _ rfl rfl
    .simp at hd
   .simp at hu
  .rw[yAI e]at hu hd;exact h.2 i u d hu hd
theorem aA6:∀(l:List (Tmp×Value)) (a:Array Value),(l.foldl (λtmps x=>tmps.setIfInBounds x.1 x.2) a).toList=l.foldl (λtmps x=>tmps.set x.1 x.2) a.toList
 | [],a=>rfl
 |x::l,a=>by simp only[yDm];rw[aA6 l];simp
theorem DY{c:Cx}(hs:Sr c){id l:Nat}{st:GJ}{fr:Gc}{ps:List Tmp}{asg bd:Code}(hd:c.D id)(ho:c.σ[id]?=some (.loop st fr ps asg bd))(hr:c.ρ id=.pointer (some ⟨l,0,none⟩)) :
  ∃r,c.w.heap[l]?=some (.loop r)/\r.params=ps.toArray/\r.assign=asg/\r.body=bd/\aV c r.tmps.toList fr/\st.fits r:=by
 obtain⟨b,r,e1,e2,e3⟩:=hs.loop id st fr ps asg bd hd ho;have e:=aA3 (hr.symm.trans e1);subst e;exact⟨r,e2,e3⟩
theorem NG{c:Cx}(hs:Sr c){id l:Nat}{st st':GJ}{fr:Gc}{ps:List Tmp}{asg bd:Code}{r r':Loop}(hd:c.D id)(ho:c.σ[id]?=some (.loop st fr ps asg bd))(hr:c.ρ id=.pointer (some ⟨l,0,none⟩))(hfl:fl<=id)
  (hh:c.w.heap[l]?=some (.loop r)) (h1:r'.params=ps.toArray) (h2:r'.assign=asg) (h3:r'.body=bd) (h4:aV c r'.tmps.toList fr) (h5:st'.fits r') :
  ∃c',c'.w=c.w.putObj l (.loop r')/\c'.σ=c.σ.set id (.loop st' fr ps asg bd)/\Sr c'/\Nx fl c c':=
 ⟨c.put (c.w.putObj l (.loop r')) id (c.ρ id) (.loop st' fr ps asg bd),rfl,rfl,Sr.uR hs hd ho trivial trivial Cb hh Ai ⟨hr,r',rfl,h1,h2,h3,h4,h5⟩,Nx.uR hs hd ho trivial trivial Cb hfl hh Ai⟩
theorem SC{c:Cx}(hs:Sr c){id l:Nat}{st:GJ}{fr:Gc}{ps:List Tmp}{asg bd:Code}{r r':Loop}(hd:c.D id)(ho:c.σ[id]?=some (.loop st fr ps asg bd))(hr:c.ρ id=.pointer (some ⟨l,0,none⟩))(hfl:fl<=id)
  (hh:c.w.heap[l]?=some (.loop r)):∃c',c'.w=c.w.putObj l (.loop r')/\c'.σ=c.σ.set id .none/\Sr c'/\Nx fl c c':=
 ⟨c.put (c.w.putObj l (.loop r')) id (c.ρ id) .none,rfl,rfl,Sr.uR hs hd ho trivial trivial Cb hh Ai trivial,Nx.uR hs hd ho trivial trivial Cb hfl hh Ai⟩
theorem aHP{code:tD}(h:SE P code){F:Fence}(hF:Open F P){id l:Nat}{args:Gc}{c:Cx}{vs:Ge}{p:PD}{σ':Gb}(hc:F9 code fl id args c.σ=some (p,σ'))(hs:Sr c)(hX:Xw fl c)
  (hv:aV c vs args) (hd:c.D id) (hr:c.ρ id=.pointer (some ⟨l,0,none⟩)) :
  ∃g tmps asg bd,(Instr.yield l vs.toArray).run P c.w=.ok (.round l g tmps asg bd) c.w/\∀m,RoundIn F m P l g tmps asg bd c.w (D0 fl c p σ'):=by
 unfold F9 at hc;split at hc
 .rename_i hfl;split at hc
  .rename_i fr pp asg bd hlo;split at hc
   .rename_i hlen;obtain⟨r,hh,hp,ha,hb,ht,hst⟩:=DY hs hd hlo hr;have hvl:=hv.1;refine⟨_,_,_,_,run_yield hh (by simp[hp,hvl,hlen]),λm=>?_⟩;have hFl:Open (F.inRound l) P:=⟨hF.fn,hF.depth,hF.name,hF.alive⟩;refine roundIn_of_wpIn (hF.fn _) ?_;split at hc
    .rename_i aS ms1 σ1 hassign;have hfr:aV c ((r.params.zip vs.toArray).foldl (λtmps x=>tmps.setIfInBounds x.1 x.2) r.tmps).toList (uM fr pp args):=by
      rw[<-Array.foldl_toList,aA6,hp];simp only[Array.toList_zip];exact aA5 pp vs args _ _ hv ht (by rw[hvl,hlen])
     have hno:lI c.σ[id]?:=by rw[hlo];trivial
     refine qC.wpIn ?_;rw[ha];refine h (a:={ tmps:=_,defers:=[] }) hFl hassign hs hX ⟨hfr,hs.jQ⟩ trivial (⟨l,rfl,hd,hno,hr⟩:BN (F.inRound l) c (some id)) m _ λc1 a1 e1 hs1 kM iK oD=>?_
     simp only at e1 iK oD;simp only[PX.JC,Exit.then];obtain⟨er,aA7⟩:=kM.nE id hd hno;have sE:=kM.bG id hd;have oE:=er.trans hr;split at hc
     .rename_i fS GG GH GI hlo1;rw[<-e1]at hlo1;obtain⟨r1,hh1,q8,ha1,hb1,NH,aHQ⟩:=DY hs1 sE hlo1 oE;refine⟨_,run_beginRound hh1 aHQ.1,?_⟩;obtain⟨c2,w2,e2,hs2,gS⟩:=NG (fl:=fl) hs1 (st':=.busy) (r':={ r1 with state:=.busy }) sE hlo1 oE hfl hh1 q8 ha1 hb1 NH rfl;have SB:lI c2.σ[id]?:=(gS.nE id sE aA7).2;have jE:=(gS.nE id sE aA7).1.trans oE;have jD:=gS.bG id sE;rw[<-w2];split at hc
      .rename_i x xK ms2 σ2 hbody;rw[e1.symm,<-e2]at hbody;have SA:=hX.next hs kM;refine qC.wpIn ?_;rw[hb];refine h (a:=a1) hFl hbody hs2 (SA.next hs1 gS) (FR.mono gS iK) (oD.mono gS) (⟨l,rfl,jD,SB,jE⟩:BN (F.inRound l) c2 (some id)) m _ λc3 a3 e3 hs3 qZ _ _=>?_
       simp only at e3;have GK:=qZ.bG id jD;have iY:=(qZ.nE id jD SB).1.trans jE;have SF:Nx fl c c3:=kM.trans (gS.trans qZ);split at hc
       .rename_i xL vV xM xN hlo3;rw[<-e3]at hlo3;obtain⟨r3,GL,SG,SH,hb3,SI,GM⟩:=DY hs3 GK hlo3 iY;cases x with
        |normal=>
         simp only[yAb,yAc]at hc;obtain⟨rfl,rfl⟩:=hc;obtain⟨c4,w4,e4,BO,JF⟩:=NG (fl:=fl) hs3 (st':=.ready) (r':={ r3 with state:=.ready,pending:=none }) GK hlo3 iY hfl GL SG SH hb3 SI ⟨rfl,rfl⟩;refine⟨_,_,run_endRound none GL,?_⟩;have:=Leaves.of (p:=.bool true) (v:=.bool true) BO (SF.trans JF) (.bool true);rw[w4,e4,e3]at this;exact this
        |ret=>
         simp only[yAb,yAc]at hc;obtain⟨rfl,rfl⟩:=hc;obtain⟨c4,w4,e4,BO,JF⟩:=NG (fl:=fl) hs3 (st':=.done .ret) (r':={ r3 with state:=.done,pending:=some .ret }) GK hlo3 iY hfl GL SG SH hb3 SI ⟨rfl,rfl⟩;refine⟨_,_,run_endRound (some .ret) GL,?_⟩;exact ko
        |exit k=>
         simp only[yAb,yAc]at hc;obtain⟨rfl,rfl⟩:=hc;obtain⟨c4,w4,e4,BO,JF⟩:=NG (fl:=fl) hs3 (st':=.done (.exit k)) (r':={ r3 with state:=.done,pending:=some (.exit k) }) GK hlo3 iY hfl GL SG SH hb3 SI ⟨rfl,rfl⟩;refine⟨_,_,run_endRound (some (.exit k)) GL,?_⟩;exact ko
       .simp at hc
      .simp at hc
     .simp at hc
    .simp at hc
   .simp at hc
  .simp at hc
 .simp at hc
def aF(P:Program)(E:aE):Prop:=
 ∀ {F:Fence} {fl:Nat} {f:FuncId} {g:Fw} {args:Gc} {c:Cx} {vs:Ge} {p:PD} {σ':Gb},Open F P->E f=some g->g fl args c.σ=some (p,σ')->Sr c->Xw fl c->aV c vs args ->
   (∃fn,P.funcs[f]?=some fn/\fn.body.isSome=true)/\∀m,CallsIn F m P f vs.toArray c.w (D0 fl c p σ')
theorem aA1{E:aE}{code:tD}(hE:aF P E)(h:SE P code){F:Fence}(hF:Open F P):Ok F P (qX P E code) where
 round:=λhc hs hX hv hd hr=>aHP h hF hc hs hX hv hd hr
 fn:=by
  intro fl f args c vs p σ' hc hs hX hv;simp only[qX]at hc;split at hc
  .rename_i g hg;exact hE hF hg hc hs hX hv
  .unfold DW at hc;split at hc
   .rename_i fn hfn;split at hc
    .rename_i bd hbd;refine⟨⟨fn,hfn,by simp[hbd]⟩,λm=>?_⟩;split at hc
     .rename_i r hr;have hF0:Open { F with round:=none } P:=⟨hF.fn,hF.depth,hF.name,hF.alive⟩;have key:CallsIn { F with round:=none } m P f vs.toArray c.w (D0 fl c p σ'):=by
       refine callsIn_of_wp_marks hfn hbd (hF.fn f) (qC.wpIn ?_);have hfr:aV c (vs.toArray++Array.replicate (fn.ntmps-vs.toArray.size) undef).toList (args++List.replicate (fn.ntmps-args.length) (.aI [])):=by
        have e:(vs.toArray++Array.replicate (fn.ntmps-vs.toArray.size) undef).toList=vs++List.replicate (fn.ntmps-args.length) undef:=by simp[hv.1]
        rw[e];refine hv.append ⟨Ai,λi v d h1 h2=>?_⟩;rw[List.getElem?_replicate]at h1 h2;split at h1
        .simp only[yAb]at h1 h2;subst h1;rw[yAJ ‹_›]at h2;simp only[yAb]at h2;subst h2;exact VR.undef c
        .simp at h1
       refine h (a:={ tmps:=_,defers:=[] }) hF0 hr hs hX ⟨hfr,hs.jQ⟩ trivial (rfl:BN { F with round:=none } c none) m _ λc1 a1 e1 hs1 kM iK oD=>?_
       have leave:(∀k,r.x≠.exit k)->LeavesInM { F with round:=none } m P fn a1.tmps (D0 fl c p σ') a1.defers .returning c1.w:=by
        intro hx;unfold cI at hc;have hc:(match uP fl r.ms r.σ with
          |some σ=>match xP P r.fr σ fn.results.toList with
           |some ps=>some (DR ps,σ)
           |none=>none
          |none=>none)=some (p,σ'):=by
         split at hc
         .rename_i k hk;exact absurd hk (hx k)
         .exact hc
        split at hc
        .rename_i σ1 hdm;split at hc
         .rename_i qs hqs;simp only[yAb,yAc]at hc;obtain⟨rfl,rfl⟩:=hc;rw[<-e1]at hdm;refine aA4 r.ms a1.defers c1 σ1 hdm hs1 oD λc2 e2 hs2 gS=>?_
          rw[<-e2]at hqs;obtain⟨v,rv,hvv⟩:=aHR (P:=P) hs2 (FR.mono gS iK) hqs;refine⟨v,rv,?_⟩;have:=Leaves.of hs2 (kM.trans gS) hvv;rw[e2]at this;exact this
         .simp at hc
        .simp at hc
       cases hx:r.x with
       |normal=>exact leave (by rw[hx];simp)
       |ret=>exact leave (by rw[hx];simp)
       |exit k=>exfalso;unfold cI at hc;rw[hx]at hc;simp at hc
      exact⟨key.1,key.2⟩
     .simp at hc
    .simp at hc
   .simp at hc
end
end
section
open Go.RowKit
section
variable{F:Fence}{P:Program}{call:dA}{fl:Nat}
theorem aA0(hF:Open F P)(hc:Ok F P call){c1:Cx}{id l n:Nat}{a a':Act}{g:Operand}{gf:FuncId}{cap fr:Gc}{ms:List Nat}{q:PD}{σ2:Gb}{r:PO}{Q:Exit->Act->World->Prop}
  (hs1:Sr c1) (SA:Xw fl c1) (hd:c1.D id) (hρ:c1.ρ id=.pointer (some ⟨l,0,none⟩)) (hno:lI c1.σ[id]?) (hfl:fl<=id) (hg:VR c1 (a.eval g) (.func gf cap))
  (hcall:call fl (.inl gf) (.yield id::cap) c1.σ=some (q,σ2)) (hleave:xI id fr ms σ2=some r) (hf:FR c1 a' fr) (hm:MR c1 a'.defers ms)
  (hQ:∀lJ pF,lJ.σ=r.σ->Sr lJ->Nx fl c1 lJ->FR lJ pF r.fr->MR lJ pF.defers r.ms->Q r.x.JC pF lJ.w) :
  ∃(d:Deferred) (w₁':World) (f:FuncId) (args:Array Value) (w₂:World),(resolve a.eval (rangeCall g l) 0).run P c1.w=.ok d w₁'/\(∀f',Target.leads P w₁' d.target d.args=some f'->F.fn f') /\
   (invoke d.target d.args).run P w₁'=.ok (.enter f args) w₂/\(F.depth.isSome=true->1<=n)/\CallsIn F (n-1) P f args w₂ (rangePost F n P l Q a'):=by
 obtain⟨cs,e,hcs⟩:=hg.JD;have hy:VR c1 (.func (.yield l) #[] #[]) (.yield id):=.yield id l hd hno hρ;have hvs:aV c1 (.func (.yield l) #[] #[]::cs) (.yield id::cap):=⟨by simpa using hcs.1,λi u d hu hd'=>by
  cases i with
  |zero=>simp at hu hd';subst hu hd';exact hy
  |succ i=>exact hcs.2 i u d Fe (by simpa using hd')⟩
 obtain⟨⟨fn,hfn,hb⟩,hcalls⟩:=hc.fn hcall hs1 SA hvs;have hb':fn.body.isNone=false:=Ex;have hn:=hF.name gf fn hfn;refine⟨{ target:=.fn (.func gf) cs.toArray,args:=#[.func (.yield l) #[] #[]] },c1.w,gf,(.func (.yield l) #[] #[]::cs).toArray,c1.w,?_,λf' _=>hF.fn f',?_,hF.asks,yCE (hcalls _) λen w3 he=>?_⟩
 .simp only[rangeCall,resolve,e,Deferred.ofValue];simp[Act.eval]
 .have e2:(#[.func (.yield l) #[] #[]]++cs.toArray:Array Value)=(.func (.yield l) #[] #[]::cs).toArray:=by apply yCi;simp
  simp only[invoke,callFunc,yAZ,run_program,hfn,hn,hb',yAx,yAN,yBm,yBk,e2]
 .cases en with
  |panicked ch=>exact he.elim
  |outgrown=>exact he.elim
  |returned v=>
   obtain⟨c2,rfl,e2,hs2,gS,_,_⟩:=he;have jD:=gS.bG id hd;obtain⟨er,SB⟩:=gS.nE id hd hno;have oW:=er.trans hρ;unfold xI at hleave;rw[<-e2]at hleave;split at hleave
   .rename_i fS GG GH GI hlo;simp only[yAb]at hleave;subst hleave;obtain⟨r2,hh,_,_,_,_,hst⟩:=DY hs2 jD hlo oW;obtain⟨c3,w3,e3,hs3,qZ⟩:=SC (fl:=fl) (r':={ r2 with state:=.exhausted }) hs2 jD hlo oW hfl hh;refine⟨_,_,run_endLoop hh (by rw[hst.1];simp),?_⟩;rw[<-w3,hst.2];exact hQ c3 a' e3 hs3 (gS.trans qZ) ((hf.mono gS).mono qZ) ((hm.mono gS).mono qZ)
   .rename_i fS GG GH GI hlo;simp only[yAb]at hleave;subst hleave;obtain⟨r2,hh,_,_,_,_,hst⟩:=DY hs2 jD hlo oW;obtain⟨c3,w3,e3,hs3,qZ⟩:=SC (fl:=fl) (r':={ r2 with state:=.exhausted }) hs2 jD hlo oW hfl hh;refine⟨_,_,run_endLoop hh (by rw[hst.1];simp),?_⟩;rw[<-w3,hst.2];exact wpIn_ret (hQ c3 a' e3 hs3 (gS.trans qZ) ((hf.mono gS).mono qZ) ((hm.mono gS).mono qZ))
   .rename_i k fS GG GH GI hlo;simp only[yAb]at hleave;subst hleave;obtain⟨r2,hh,_,_,_,_,hst⟩:=DY hs2 jD hlo oW;obtain⟨c3,w3,e3,hs3,qZ⟩:=SC (fl:=fl) (r':={ r2 with state:=.exhausted }) hs2 jD hlo oW hfl hh;refine⟨_,_,run_endLoop hh (by rw[hst.1];simp),?_⟩;rw[<-w3,hst.2];exact wpIn_exit (hQ c3 a' e3 hs3 (gS.trans qZ) ((hf.mono gS).mono qZ) ((hm.mono gS).mono qZ))
   .simp at hleave
theorem aHK(hF:Open F P)(hc:Ok F P call){rd:Option Nat}{gf:FuncId}{cap fr:Gc}{ps:Array Tmp}{assign body:Code}{ms:List Nat}{cx:Cx}{a:Act}{r:PO}{m:Nat}{Q:Exit->Act->World->Prop}{g:Operand}
  (h:GA call rd gf cap ps.toList assign body fl fr ms cx.σ=some r) (hs:Sr cx) (hX:Xw fl cx) (hf:FR cx a fr) (hm:MR cx a.defers ms) (hr:BN F cx rd) (hg:VR cx (a.eval g) (.func gf cap))
  (hQ:∀lJ pF,lJ.σ=r.σ->Sr lJ->Nx fl cx lJ->FR lJ pF r.fr->MR lJ pF.defers r.ms->Q r.x.JC pF lJ.w):(Code.rangeFunc g ps assign body).wpIn F m P Q a cx.w:=by
 refine wpIn_rangeFunc λfn _=>?_
 unfold GA at h;split at h
 .rename_i hfl;split at h
  ·
   split at h
   .rename_i q σ2 hcall;have hro:F.round=none:=hr;have g1:cx.w.grownBy (cx.w.alloc (.deferred (some []))) none:=xS _ _;have b1:∀b,bA (.pointer (some ⟨cx.w.heap.size,0,none⟩))=some b->cx.w.heap.size<=b/\b<(cx.w.alloc (.deferred (some []))).heap.size:=λb hb=>by simp[bA]at hb;subst hb;simp
    let c1:=cx.push (cx.w.alloc (.deferred (some []))) (.pointer (some ⟨cx.w.heap.size,0,none⟩)) .mark
    have hs1:Sr c1:=Sr.push hs g1 b1 ⟨_,rfl,yBZ _ _⟩;have kM:Nx fl cx c1:=Nx.push hs g1 (λb hb=>(b1 b hb).1);have l1:c1.σ.length=cx.σ.length+1:=by simp[c1,Cx.push]
    let tB:Loop:={ state:=.ready,pending:=none,fn,tmps:=a.tmps,params:=ps,assign,body,defers:=cx.w.heap.size }
    have g2:c1.w.grownBy (c1.w.alloc (.loop tB)) none:=xS _ _;have DZ:c1.w.heap.size=cx.w.heap.size+1:=by show(cx.w.alloc _).heap.size=_;simp
    have b2:∀b,bA (.pointer (some ⟨cx.w.heap.size+1,0,none⟩))=some b->c1.w.heap.size<=b/\b<(c1.w.alloc (.loop tB)).heap.size:=λb hb=>by simp[bA]at hb;subst hb;simp[DZ]
    have hnew:(c1.w.alloc (.loop tB)).heap[cx.w.heap.size+1]?=some (.loop tB):=by rw[<-DZ];exact yBZ _ _
    let c2:=c1.push (c1.w.alloc (.loop tB)) (.pointer (some ⟨cx.w.heap.size+1,0,none⟩)) (.loop .ready fr ps.toList assign body)
    have hs2:Sr c2:=Sr.push hs1 g2 b2 ⟨_,_,rfl,hnew,by simp[tB],rfl,rfl,aV.mono kM hf.1,⟨rfl,rfl⟩⟩;have gS:Nx fl c1 c2:=Nx.push hs1 g2 (λb hb=>(b2 b hb).1);have JE:=kM.trans gS;have dL:c2.σ=cx.σ++[.mark]++[.loop .ready fr ps.toList assign body]:=rfl;have pn:=gV (c:=c1) (w:=c1.w.alloc (.loop tB)) (v:=.pointer (some ⟨cx.w.heap.size+1,0,none⟩)) (o:=.loop .ready fr ps.toList assign body);rw[l1]at pn;rw[<-dL]at hcall;obtain⟨d,w₁',f,args,w₂,h1,h2,h3,h4,h5⟩:=aA0 (n:=m) (a:=a) (a':={ a with defers:=[{ target:=.collected cx.w.heap.size,args:=#[] }]++a.defers }) (g:=g) (Q:=Q) hF hc hs2 (hX.next hs JE) pn.2.2 pn.2.1 (by rw[pn.1];trivial) Ah (hg.mono JE) hcall h (hf.mono JE)
     ⟨⟨_,rfl,gS.bG _ (.inr rfl),by rw[uQ (id:=cx.σ.length) hs1 (.inr rfl),gV.1];trivial,(oX hs1 (.inr rfl)).trans gV.2.1⟩,hm.mono JE⟩
     (λlJ pF e1 q1 q2 q3 q4=>hQ lJ pF e1 q1 (JE.trans q2) q3 q4)
    refine⟨_,_,c2.w,d,w₁',f,args,w₂,?_,h1,h2,h3,h4,h5⟩;rw[hro];exact run_enterLoop_outer fn a.tmps ps assign body
   .exact ak
  ·
   rename_i id0;split at h
   .rename_i st0 fS GG GH GI hlo0;split at h
    .rename_i q σ2 hcall;obtain⟨l0,hro,SD,aU8,aHL⟩:=hr;obtain⟨r0,hh0,_⟩:=DY hs SD hlo0 aHL
     let tB:Loop:={ state:=.ready,pending:=none,fn,tmps:=a.tmps,params:=ps,assign,body,defers:=r0.defers }
     have g2:cx.w.grownBy (cx.w.alloc (.loop tB)) none:=xS _ _;have b2:∀b,bA (.pointer (some ⟨cx.w.heap.size,0,none⟩))=some b->cx.w.heap.size<=b/\b<(cx.w.alloc (.loop tB)).heap.size:=λb hb=>by simp[bA]at hb;subst hb;simp
     let c2:=cx.push (cx.w.alloc (.loop tB)) (.pointer (some ⟨cx.w.heap.size,0,none⟩)) (.loop .ready fr ps.toList assign body)
     have hs2:Sr c2:=Sr.push hs g2 b2 ⟨_,_,rfl,yBZ _ _,by simp[tB],rfl,rfl,hf.1,⟨rfl,rfl⟩⟩;have gS:Nx fl cx c2:=Nx.push hs g2 (λb hb=>(b2 b hb).1);have dL:c2.σ=cx.σ++[.loop .ready fr ps.toList assign body]:=rfl;have pn:=gV (c:=cx) (w:=cx.w.alloc (.loop tB)) (v:=.pointer (some ⟨cx.w.heap.size,0,none⟩)) (o:=.loop .ready fr ps.toList assign body);rw[<-dL]at hcall;obtain⟨d,w₁',f,args,w₂,h1,h2,h3,h4,h5⟩:=aA0 (n:=m) (a:=a) (a':={ a with defers:=[]++a.defers }) (g:=g) (Q:=Q) hF hc hs2 (hX.next hs gS) pn.2.2 pn.2.1 (by rw[pn.1];trivial) hfl (hg.mono gS) hcall h (hf.mono gS)
      (hm.mono gS) (λlJ pF e1 q1 q2 q3 q4=>hQ lJ pF e1 q1 (gS.trans q2) q3 q4)
     refine⟨_,_,c2.w,d,w₁',f,args,w₂,?_,h1,h2,h3,h4,h5⟩;rw[hro];unfold Instr.enterLoop;simp only[yAZ,run_getLoop hh0,run_newObj_alloc,Result.andThen,yBm];rfl
    .exact ak
   .exact ak
 .exact ak
end
theorem aHM{P:Program}{E:aE}(hE:aF P E)(hP:P.follows .mixedOrders=true):∀n,SE P (iO P E n):=by
 intro n
 induction n with
 |zero=>intro F rd c fl fr ms cx r a hF h;simp[iO]at h
 |succ n ih=>
  intro F rd c fl fr ms cx r a hF h hs hX hf hm hr m Q hQ;have hc:Ok F P (qX P E (iO P E n)):=aA1 hE ih hF;unfold iO at h;split at h
  .simp only[yAb]at h;subst h;exact wpIn_skip (hQ cx a rfl hs (.refl _ _) hf hm)
  .split at h
   .rename_i id ops _ fr' σ' hseq;simp only[yAb]at h;subst h;refine wpIn_region ?_;unfold BM at hseq;rw[List.range_eq_range'];split at hseq
    .rename_i x hx;simp only[yAb]at hseq;subst hseq;have:=aA2 (n:=m) (Q:=Q) hF hc ops.toList 0 Ai hs hX hf hx (λc' a' e1 q1 q2 q3 q4=>hQ c' a' e1 q1 q2 q3 (by rw[q4];exact hm.mono q2));exact cr
    .have:=aHN (n:=m) (Q:=Q) hF hc hs hX hf hseq (λc' a' e1 q1 q2 q3 q4=>hQ c' a' e1 q1 q2 q3 (by rw[q4];exact hm.mono q2));exact cr
   .exact ak
  .split at h
   .rename_i id ops _ fr' σ' hdr;simp only[yAb]at h;subst h;refine wpIn_region_any hP ?_;have hg:cx.w.grownBy cx.w.drew none:=grownBy_drew _;have nx:Nx fl cx (cx.at cx.w.drew):=Nx.grow hs hg;exact aHO (n:=m) (c0:=cx.at cx.w.drew) hF hc (Sr.grow hs hg) (hX.next hs nx) (hf.mono nx) hdr (λc' a' e1 q1 q2 q3 q4=>hQ c' a' e1 q1 (nx.trans q2) q3 (by rw[q4];exact(hm.mono nx).mono q2))
   .exact ak
  .rename_i x y;refine wpIn_seq ?_;split at h
   .rename_i aS ms1 σ1 hx;refine qC.wpIn (ih hF hx hs hX hf hm hr m _ λc1 a1 e1 hs1 kM iK oD=>?_);simp only at e1 iK oD;rw[<-e1]at h;exact qC.wpIn (ih hF h hs1 (hX.next hs kM) iK oD (hr.mono kM) m _ λc2 a2 e2 hs2 gS kY hm2=>hQ c2 a2 e2 hs2 (kM.trans gS) kY hm2)
   .exact gh
  .rename_i g x y;split at h
   .rename_i hg;exact wpIn_cond_true (eC hf hg).zM (qC.wpIn (ih hF h hs hX hf hm hr m Q hQ))
   .rename_i hg;exact wpIn_cond_false (eC hf hg).zM (qC.wpIn (ih hF h hs hX hf hm hr m Q hQ))
   .exact ak
  .rename_i id b;refine wpIn_block ?_;split at h
   .rename_i k aS ms1 σ1 hx;simp only[yAb]at h;subst h;refine qC.wpIn (ih hF hx hs hX hf hm hr m _ λc1 a1 e1 hs1 kM iK oD=>?_);have:=hQ c1 a1 e1 hs1 kM iK oD;simp only[PX.JC,Exit.inBlock]
    by_cases hk:k=id
    .simp only[hk,yAL]at this ⊢;exact this
    .simp only[hk,yAN]at this ⊢;exact this
   .rename_i hne;refine qC.wpIn (ih hF h hs hX hf hm hr m _ λc1 a1 e1 hs1 kM iK oD=>?_);have:=hQ c1 a1 e1 hs1 kM iK oD;obtain⟨x',aS,ms1,σ1⟩:=r;cases x' with
    |normal=>exact this
    |ret=>exact this
    |exit k=>exact absurd h (hne _ _ _ _)
  .rename_i b;show zN F m P b Q a cx.w
   refine zN.round ?_;split at h
   .rename_i aS ms1 σ1 hx;refine qC.wpIn (ih hF hx hs hX hf hm hr m _ λc1 a1 e1 hs1 kM iK oD=>?_);simp only at e1 iK oD;rw[<-e1]at h;exact ih hF h hs1 (hX.next hs kM) iK oD (hr.mono kM) m Q λc2 a2 e2 hs2 gS kY hm2=>hQ c2 a2 e2 hs2 (kM.trans gS) kY hm2
   .exact gh
  .rename_i g ps assign body;split at h
   .rename_i gf cap hg;exact aHK hF hc h hs hX hf hm hr (eC hf hg) hQ
   .exact ak
  .simp only[yAb]at h;subst h;exact wpIn_exit (hQ cx a rfl hs (.refl _ _) hf hm)
  .simp only[yAb]at h;subst h;exact wpIn_ret (hQ cx a rfl hs (.refl _ _) hf hm)
  .exact ak
theorem BH{P:Program}{E:aE}(hE:aF P E)(hP:P.follows .mixedOrders=true){F:Fence}(hF:Open F P)(n:Nat):Ok F P (eN P E n):=aA1 hE (aHM hE hP n) hF
end
end Go.Kz
end
