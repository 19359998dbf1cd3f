/- Steps of the proof. -/
import Derived.Lib.AppendZerosOnto
import Derived.Test.YteegpeenjdgodaaGreatDoorP1
import Derived.OrdersIn
set_option linter.all false
set_option maxHeartbeats 40000000
set_option maxRecDepth 100000
noncomputable section
namespace Go.Kz
section
open Go.RowKit
section
variable{P:Program}{c:Cx}{fl:Nat}
theorem BL(n:Nat):∀(k:Nat) (cs:List PD),(sI n k cs).length=k
 |0,_=>rfl
 |k+1,cs=>by simp[sI,BL n k]
theorem LD(n:Nat):∀(k:Nat) (cs:List PD),k*n<=cs.length->(sI n k cs).flatMap PD.cells=cs.take (k*n)
 |0,_,_=>by simp[sI]
 |k+1,cs,h=>by
  have h':k*n+n<=cs.length:=by rw[yBx]at h;omega
  rw[sI,yBw,LD n k (cs.drop n) Cu];show cs.take n++(cs.drop n).take (k*n)=_
  rw[yBx,Nat.one_mul,Nat.add_comm (k*n) n,List.take_add]
theorem PW(n:Nat):∀(k:Nat) (cs:List PD),k*n<=cs.length->∀x∈sI n k cs,x.cells.length=n
 |0,_,_,x,hx=>by simp[sI]at hx
 |k+1,cs,h,x,hx=>by
  have h':k*n+n<=cs.length:=by rw[yBx]at h;omega
  rw[sI]at hx;rcases yBn.1 hx with rfl|hx
  .simp[PD.cells];omega
  .exact PW n k (cs.drop n) Cu x hx
theorem aJb(hs:Sr c){x:PD}{sz:Nat}{ys:Jq}(h:tV c.σ x=some (sz,ys)){vx:Value}(hx:VR c vx x):∃B cap fly,vx=.slice B ys.length cap/\ys.length<=cap/\(∀y∈ys,y.cells.length=sz)/\fly.length=ys.length*sz/\(∀v∈fly,v.oneCell'=true) /\
  (∀(j:Nat) (v:Value),fly[j]?=some v->∃ad,B=some ad/\c.w.cell? (ad.add j)=some v)/\aY c fly (ys.flatMap PD.cells):=by
 unfold tV at h;split at h
 .rename_i tX ys0 tok;simp only[yAb,yAc]at h;obtain⟨rfl,rfl⟩:=h;obtain⟨A,cap,fly,rfl,a1,a2,a3,a4,a5,a6,a7,a8⟩:=hx.pK;refine⟨A,cap,fly,rfl,a1,a3,a4,a5,λj v hj=>?_,by rw[a4,FP _ a3],a7⟩;exact ob
 .rename_i id ver off n tX;split at h
  .rename_i e sz' fS cs hq;split at h
   .rename_i hc;obtain⟨rfl,rfl,hle⟩:=hc;simp only[yAb,yAc]at h;obtain⟨rfl,rfl⟩:=h;obtain⟨b,cap,rfl,hp,h1,h2⟩:=hx.BM;obtain⟨_,C,q2,q3⟩:=(hp.2 e _ _ cs hq).2 rfl;obtain⟨b',C',cur,e1,e2,e3,e4,e5,e6,e7,e8⟩:=hs.row id e _ _ cs hp.1 hq;rw[q2]at e1;simp only[yBH,yAb,yBG,yBk,yCe]at e1;obtain⟨rfl,rfl⟩:=e1;have hdl:n*sz'<=(cs.drop off).length:=Cu;have hlen:(((cur.toList.take cs.length).drop off).take (n*sz')).length=n*sz':=Cu;refine⟨some ⟨b,off,none⟩,cap,((cur.toList.take cs.length).drop off).take (n*sz'),by rw[BL],by rw[BL];exact h1,PW _ _ _ hdl,by rw[hlen,BL],?_,?_,?_⟩
    .intro v hv;exact e8 v (yAy (yBd (yAy hv)))
    .intro j v hj;refine⟨_,rfl,?_⟩;rw[tY];simp only[World.cell?,e2];rw[yAv]at hj;split at hj
     .rw[yBi,yAv]at hj;split at hj
      .simpa using hj
      .cases hj
     .cases hj
    .rw[LD _ _ _ hdl];exact e7.take_drop off (n*sz')
   .cases h
  .cases h
 .rename_i id off n tX;split at h
  .rename_i q hq;split at h
   .rename_i hle;simp only[yAb,yAc]at h;obtain⟨rfl,rfl⟩:=h;obtain⟨b,cap,rfl,hD,_,hr,h1,h2⟩:=hx.FL;obtain⟨b',cur,T,e1,e2,e3,e4⟩:=hs.box id q hD hq;rw[hr]at e1;simp only[yCK,yAb,yBG,yBk]at e1;subst e1;have hdl:n*tX<=(q.cells.drop off).length:=Cu;have hcl:cur.toList.length=q.cells.length:=e3.1;have hlen:((cur.toList.drop off).take (n*tX)).length=n*tX:=by rw[yAt,yBa];omega
    refine⟨some ⟨b,off,none⟩,cap,(cur.toList.drop off).take (n*tX),by rw[BL],by rw[BL];exact h1,PW _ _ _ hdl,by rw[hlen,BL],?_,?_,?_⟩
    .intro v hv;exact e4.1 v (yBd (yAy hv))
    .intro j v hj;refine⟨_,rfl,?_⟩;rw[tY];simp only[World.cell?,e2];rw[yAv]at hj;split at hj
     .exact mm
     .cases hj
    .rw[LD _ _ _ hdl];exact e3.take_drop off (n*tX)
   .cases h
  .cases h
 .cases h
theorem H3{zs:Jt}(h:∀v∈zs.toList,v.oneCell'=true)(h0:0<zs.size)(n:Nat):∀v∈(Builtin.zeroCells zs n).toList,v.oneCell'=true:=by
 intro v hv;simp only[Builtin.zeroCells,yDw,yDx,yAw]at hv;obtain⟨k,_,rfl⟩:=hv;have mA:k%zs.size<zs.size:=yBA _ h0;apply h;simp[mA]
theorem aJc{w:World}{t ty e:TypeId}{i:TypeInfo}{z:Value}(hu:P.underlying t=some (.slice e))(hi:P.info? e=some i)(hz:i.zero=some z)(hzs:z.cells.size=i.size)(hpos:0<i.size)(hz1:∀v∈z.cells.toList,v.oneCell'=true)
  {A B:Option Addr} {n cap m c':Nat} {flx fly:Js} (hA:A=none->n=0/\cap=0) (hlx:flx.length=n*i.size) (hx:∀(j:Nat) (v:Value),flx[j]?=some v->∃ad,A=some ad/\w.cell? (ad.add j)=some v)
  (hly:fly.length=m*i.size) (hy:∀(j:Nat) (v:Value),fly[j]?=some v->∃ad,B=some ad/\w.cell? (ad.add j)=some v) (FQ:∀v∈flx,v.oneCell'=true) (U7:∀v∈fly,v.oneCell'=true) (hm:0<m) (hcap:cap<n+m) (hmax:n+m<=maxLen) (hby:(n+m)*i.bytes<=140737488355328) :
  ∃C cur w',(Builtin.append_ #[t,t] ty #[.slice A n cap,.slice B m c']).run P w=.ok (.slice (some ⟨w.heap.size,0,none⟩) (n+m) C) w'/\w.grownBy w' none/\w'.heap[w.heap.size]?=some (.cells cur e (0,0))/\cur.size=C*i.size /\
   n+m<=C/\C<=maxLen/\(∀v∈cur.toList,v.oneCell'=true)/\∃rest,cur.toList=flx++fly++rest:=by
 have U8:0<fly.length:=by rw[hly];exact yDb hm hpos
 obtain⟨bd,rfl,_⟩:=hy 0 fly[0] (by simp[U8]);have hnews:∀(j:Nat) (u:Value),fly[j]?=some u->w.cell? (bd.add j)=some u:=λj u hj=>by
  obtain⟨ad,e',h9⟩:=hy j u hj;exact lz
 have fin:∀old,old<n+m->w.grownBy (w.drew.alloc (.cells (flx.toArray++fly.toArray++Builtin.zeroCells z.cells (grownCap w (n+m) old e-(n+m))) e)) none /\
   (w.drew.alloc (.cells (flx.toArray++fly.toArray++Builtin.zeroCells z.cells (grownCap w (n+m) old e-(n+m))) e)).heap[w.heap.size]?=some (.cells (flx.toArray++fly.toArray++Builtin.zeroCells z.cells (grownCap w (n+m) old e-(n+m))) e (0,0)) /\
   (flx.toArray++fly.toArray++Builtin.zeroCells z.cells (grownCap w (n+m) old e-(n+m))).size=grownCap w (n+m) old e*i.size/\n+m<=grownCap w (n+m) old e/\grownCap w (n+m) old e<=maxLen /\
   (∀v∈(flx.toArray++fly.toArray++Builtin.zeroCells z.cells (grownCap w (n+m) old e-(n+m))).toList,v.oneCell'=true)/\∃rest,(flx.toArray++fly.toArray++Builtin.zeroCells z.cells (grownCap w (n+m) old e-(n+m))).toList=flx++fly++rest:=by
  intro old ho;have hge:=yDc w (n+m) old e;have hcm:grownCap w (n+m) old e<=maxLen:=yDy w (n+m) old e hmax;refine⟨⟨rfl,rfl,rfl,Ck,λk hk _=>yDd w.drew _ hk⟩,yBW w.drew _,?_,hge,hcm,?_,_,by simp only[yDe];rfl⟩
  .simp only[yDz,yCl,yCP,hzs,hlx,hly,<-yBx]
   congr 1
   omega
  .intro v hv;simp only[yDe,yBh]at hv;rcases hv with(hv|hv)|hv
   .exact FQ v hv
   .exact U7 v hv
   .exact H3 hz1 Cj _ v hv
 cases A with
 |none=>
  obtain⟨rfl,rfl⟩:=hA rfl;have FT:flx=[]:=yAf Ix;subst FT;have hr:=run_append_nil (P:=P) w t ty e i z hu hi hz bd m c' fly hly hnews Cj Gw (by have hb:=hby;simp only[yAp]at hb;omega);exact tc
 |some ad=>
  have holds:∀(j:Nat) (u:Value),flx[j]?=some u->w.cell? (ad.add j)=some u:=λj u hj=>by
   obtain⟨H4,e',h9⟩:=hx j u hj;exact lz
  have hr:=run_append_grow (P:=P) w t ty e i z hu hi hz ad n cap flx hlx holds bd m c' fly hly hnews hcap Gw (growslice_fits hcap hby);exact⟨_,_,_,hr,fin cap hcap⟩
theorem aJd{w:World}{t ty e:TypeId}{i:TypeInfo}(hu:P.underlying t=some (.slice e))(hi:P.info? e=some i){b off n cap m c':Nat}{B:Option Addr}{fly:Js}
  (hly:fly.length=m*i.size) (hy:∀(j:Nat) (v:Value),fly[j]?=some v->∃ad,B=some ad/\w.cell? (ad.add j)=some v) (hroom:n+m<=cap) :
  (Builtin.append_ #[t,t] ty #[.slice (some ⟨b,off,none⟩) n cap,.slice B m c']).run P w=Result.andThen ((storeCells ⟨b,off+n*i.size,none⟩ fly).run P w) (λ_ w'=>.ok (.slice (some ⟨b,off,none⟩) (n+m) cap) w'):=by
 have hf:(Builtin.firstCells i.size m (.slice B m c')).run P w=.ok fly.toArray w:=by
  cases B with
  |none=>
   have:fly=[]:=by
    cases fly with
    |nil=>rfl
    |cons x xs=>obtain⟨_,e',_⟩:=hy 0 x rfl;cases e'
   exact uo
  |some bd=>
   simp only[Builtin.firstCells];exact DI hly λj v hj=>by
    obtain⟨ad,e',h9⟩:=hy j v hj;exact lz
 simp[Builtin.append_,yAM hu,sizeOf,typeInfo,hi,Builtin.lenOf,hroom,hf,tY]
structure aCo (P:Program) (w:World) (t u ty e:TypeId) (i:TypeInfo) (vx:Value) (m:Nat) (fly:List Value):Prop where
 none_:m=0->∀(A:Option Addr) (n cap:Nat),n<=cap->(Builtin.append_ #[t,u] ty #[.slice A n cap,vx]).run P w=.ok (.slice A n cap) w
 grow:0<m->∀(A:Option Addr) (n cap:Nat) (flx:List Value),(A=none->n=0/\cap=0)->flx.length=n*i.size->(∀(j:Nat) (v:Value),flx[j]?=some v->∃ad,A=some ad/\w.cell? (ad.add j)=some v)->(∀v∈flx,v.oneCell'=true) ->
  cap<n+m->n+m<=maxLen->(n+m)*i.bytes<=140737488355328 ->
  ∃C cur w',(Builtin.append_ #[t,u] ty #[.slice A n cap,vx]).run P w=.ok (.slice (some ⟨w.heap.size,0,none⟩) (n+m) C) w'/\w.grownBy w' none/\w'.heap[w.heap.size]?=some (.cells cur e (0,0))/\cur.size=C*i.size /\
   n+m<=C/\C<=maxLen/\(∀v∈cur.toList,v.oneCell'=true)/\∃rest,cur.toList=flx++fly++rest
 room:∀(b off n cap:Nat),n+m<=cap->(Builtin.append_ #[t,u] ty #[.slice (some ⟨b,off,none⟩) n cap,vx]).run P w=Result.andThen ((storeCells ⟨b,off+n*i.size,none⟩ fly).run P w) (λ_ w'=>.ok (.slice (some ⟨b,off,none⟩) (n+m) cap) w')
theorem aCp(hs:Sr c){fn:Nat}{t u ty:TypeId}{s x p:PD}{σ':Jp}(h:dM P fn fl c.σ t s x=some (p,σ')){vs vx:Value}(hvs:VR c vs s)
  (hsrc:∀e i z sz' ys,P.underlying t=some (.slice e)->tV c.σ x=some (sz',ys)->P.info? e=some i->i.zero=some z->z.cells.size=i.size->0<i.size->(∀v∈z.cells.toList,v.oneCell'=true)->(ys.length=0\/sz'=i.size) ->
   ∃fly:List Value,fly.length=ys.length*i.size/\(∀v∈fly,v.oneCell'=true)/\aY c fly (ys.flatMap PD.cells)/\aCo P c.w t u ty e i vx ys.length fly) :
  ∃v w',(Builtin.append_ #[t,u] ty #[vs,vx]).run P c.w=.ok v w'/\Leaves fl c p σ' v w':=by
 unfold dM at h;split at h
 rotate_left
 .cases h
 split at h
 rotate_left
 .cases h
 rename_i e sz' ys hu hw;split at h
 rotate_left
 .cases h
 rename_i i hi;split at h
 rotate_left
 .cases h
 rename_i z hz;split at h
 rotate_left
 .cases h
 rename_i hc;obtain⟨FU,hpos,hzs,hz1⟩:=hc;have hz1:∀v∈z.cells.toList,v.oneCell'=true:=λv hv=>yAn.1 hz1 v hv
 obtain⟨fly,hly,b4,b6,hS⟩:=hsrc e i z sz' ys hu hw hi hz hzs hpos hz1 FU;split at h
 ·
  rename_i sz xs tok;split at h
  rotate_left
  .cases h
  rename_i hc;obtain⟨hsz,hmax,hby,htok⟩:=hc;obtain⟨A,cap,flx,rfl,a1,a2,a3,a4,a5,a6,a7,a8⟩:=hvs.pK;have hcells:∀(j:Nat) (v:Value),flx[j]?=some v->∃ad,A=some ad/\c.w.cell? (ad.add j)=some v:=λj v hj=>by
   exact ob
  split at h
  .rename_i h0;simp only[yAb,yAc]at h;obtain⟨rfl,rfl⟩:=h;exact⟨.slice A xs.length cap,c.w,hS.none_ h0 A xs.length cap a1,c,rfl,rfl,hs,.refl _ _,hvs,λ_ h=>.inl h⟩
  .rename_i h0;simp only[yAb,yAc]at h;obtain⟨rfl,rfl⟩:=h;have hcapn:xs.length=cap:=by
    cases tok<;>first|(simp[Tok.fresh]at htok;done)|(simp only[sJ]at a8;omega)
   have hlx:flx.length=xs.length*i.size:=by
    exact xy
   have hA:A=none->xs.length=0/\cap=0:=by
    rintro rfl
    have hx0:xs.length=0:=by
     rcases yEa xs.length with h0|h0
     .exact h0
     .have:0<flx.length:=by rw[hlx];exact yDb h0 hpos
      exact xw
    exact⟨hx0,Cj⟩
   obtain⟨C,cur,w',r,g1,g2,g3,g4,g5,g6,rest,g7⟩:=hS.grow (yDA h0) A xs.length cap flx hA hlx hcells a5 Cj hmax hby;have hcl:((xs++ys).flatMap PD.cells).length=(flx++fly).length:=by
    rw[yEb,yAa,yAa,FP xs a3,b6.1,a4]
   have hvr:aY c (cur.toList.take ((xs++ys).flatMap PD.cells).length) ((xs++ys).flatMap PD.cells):=by
    rw[hcl,g7,yCt,yEb];exact aY.append ⟨by rw[FP xs a3,a4],a7⟩ b6
   have hcs:((xs++ys).flatMap PD.cells).length<=cur.size:=by
    rw[hcl];have:=yAL List.length g7;simp at this ⊢;omega
   have hbk:∀b,bE (.slice (some ⟨c.w.heap.size,0,none⟩) 0 C)=some b->c.w.heap.size<=b:=λb hb=>Hg
   refine⟨_,w',r,c.push w' (.slice (some ⟨c.w.heap.size,0,none⟩) 0 C) (.row e i.size 0 ((xs++ys).flatMap PD.cells)),rfl,rfl,?_,Nx.push hs g1 hbk,?_,?_⟩
   .refine Sr.push hs g1 (λb hb=>⟨hbk b hb,?_⟩) ⟨_,C,cur,rfl,g2,g3,g5,hpos,hcs,hvr,g6⟩;simp[bE]at hb;subst hb;exact iB g2
   .refine .aO _ _ _ _ _ _ _ ⟨.inr rfl,λe' tX v' cs hq=>?_⟩ g4 g5;rw[iQ.1]at hq;simp only[yAb,aA.row.injEq]at hq;obtain⟨rfl,rfl,rfl,rfl⟩:=hq;exact⟨yAk _,λ_=>⟨rfl,C,iQ.2.1,Ck⟩⟩
   .exact dw
 ·
  rename_i id ver off n sz;split at h
  rotate_left
  .cases h
  rename_i hc;obtain⟨hfl,rfl,hmax,hby⟩:=hc;split at h
  rotate_left
  .cases h
  rename_i e' tX fS cs hq;split at h
  rotate_left
  .cases h
  rename_i hc;obtain⟨rfl,rfl,rfl⟩:=hc;obtain⟨b,cap,rfl,hp,h1,h2⟩:=hvs.BM;obtain⟨_,C,hr,hCo⟩:=(hp.2 _ _ _ cs hq).2 rfl;have hbase:=hs.row id _ _ _ cs hp.1 hq;obtain⟨b',C',cur,e1,e2,e3,e4,e5,e6,e7,e8⟩:=hbase;rw[hr]at e1;simp only[yBH,yAb,yBG,yBk,yCe]at e1;obtain⟨rfl,rfl⟩:=e1;split at h
  ·
   rename_i hin;simp only[yAb,yAc]at h;obtain⟨rfl,rfl⟩:=h;have hroom:n+ys.length<=cap:=by
    have:(n+ys.length)*i.size<=cap*i.size:=Cj;exact Nat.le_of_mul_le_mul_right this hpos
   obtain⟨w',hst,hs',hn'⟩:=aCq (P:=P) (fl:=fl) hs hp.1 hq hr b6 b4 (off:=off+n*i.size) (by rw[<-b6.1,hly];rw[yBx]at hin;omega) hfl;refine⟨.slice (some ⟨b,off,none⟩) (n+ys.length) cap,w',?_,_,rfl,rfl,hs',hn',?_,λi hi=>.inl hi⟩
   .rw[hS.room b off n cap hroom,hst];rfl
   .exact .aO _ _ _ _ _ _ _ (hp.oY hn'.U9) hroom h2
  .split at h
   rotate_left
   .cases h
   rename_i hc;obtain⟨rfl,hn⟩:=hc;simp only[yAb,yAc]at h;obtain⟨rfl,rfl⟩:=h;have hcapC:cap=C:=yEc hpos Cj;subst hcapC;have hyp:ys.length≠0:=λh0=>by
    rename_i hin;rw[h0,yBm,yAp]at hin;omega
   by_cases hroom:n+ys.length<=cap
   .have hfit:cs.length+fly.length<=cur.size:=by
     rw[e3,hly,<-hn,<-yBx];exact yBI _ hroom
    have hst:=yDf (P:=P) b (0+n*i.size) _ fly 0 cur c.w e2 Cj b4;simp only[yBm,yAp]at hst;have hrun:=hS.room b 0 n cap hroom;rw[yAp,hst]at hrun;have hk:∀k,k<c.w.heap.size->bE (c.ρ id)≠some k->(c.w.setRow b (List.take (n*i.size) cur.toList++fly++List.drop (n*i.size+fly.length) cur.toList).toArray).heap[k]?=c.w.heap[k]?:=
     λk _ hk=>yBJ _ _ _ _ (λh=>hk (by rw[hr,h];rfl))
    have hcr:(List.take (n*i.size) cur.toList++fly++List.drop (n*i.size+fly.length) cur.toList).length=cur.size:=Cu;have hall:∃b0 C0 j6,c.ρ id=.slice (some ⟨b0,0,none⟩) 0 C0/\(c.w.setRow b (List.take (n*i.size) cur.toList++fly++List.drop (n*i.size+fly.length) cur.toList).toArray).heap[b0]?=some (.cells j6 e' (0,0))/\j6.size=C0*i.size/\C0<=maxLen/\0<i.size /\
      (cs++ys.flatMap PD.cells).length<=j6.size/\aY c (j6.toList.take (cs++ys.flatMap PD.cells).length) (cs++ys.flatMap PD.cells)/\∀v∈j6.toList,v.oneCell'=true:=by
     refine⟨b,cap,_,hr,yBT _ _ cur _ e' (0,0) e2,by simpa using hcr.trans e3,e4,hpos,?_,?_,PY e8 b4 _ _⟩
     .rw[yAa,<-b6.1,yCl,hcr];exact hfit
     .show aY c (List.take _ (List.take (n*i.size) cur.toList++fly++List.drop (n*i.size+fly.length) cur.toList)) _
      rw[show(cs++ys.flatMap PD.cells).length=(List.take (n*i.size) cur.toList++fly).length by
       rw[yAa,yAa,b6.1,yAt,hn];have:cs.length<=cur.toList.length:=by simpa using e6
       omega]
      rw[yCt,hn];exact e7.append b6
    refine⟨.slice (some ⟨b,0,none⟩) (n+ys.length) cap,_,hrun,c.put _ id (c.ρ id) (.row e' i.size (fS+1) (cs++ys.flatMap PD.cells)),rfl,rfl,Sr.putRow hs hp.1 hq (yCf _) (λh=>rfl) ⟨rfl,rfl,rfl,Ck⟩ hk (.inl rfl) hall,
     Nx.putRow hs hp.1 hq hfl (yCf _) (λh=>rfl) ⟨rfl,rfl,rfl,Ck⟩ hk (.inl rfl),?_,λi hi=>.inl hi⟩
    refine .aO _ _ _ _ _ _ _ ⟨hp.1,λe0 DC v1 BN hq1=>?_⟩ hroom h2;exact ey
   .have hcut:(cur.toList.take cs.length).length=n*i.size:=by
     rw[yAt,<-hn];have:n*i.size<=cur.toList.length:=by rw[hn];simpa using e6
     omega
    obtain⟨C2,LF,w',r,g1,g2,g3,g4,g5,g6,rest,g7⟩:=hS.grow (yDA hyp) (some ⟨b,0,none⟩) n cap (cur.toList.take cs.length) (λh=>Co) hcut (λj v hj=>by
      refine⟨_,rfl,?_⟩;rw[tY];simp only[World.cell?,e2];rw[yAv]at hj;split at hj
      .simpa using hj
      .cases hj) (λv hv=>e8 v (yAy hv)) Cj hmax hby
    have hbk:∀b0,bE (.slice (some ⟨c.w.heap.size,0,none⟩) 0 C2)=some b0->c.w.heap.size<=b0:=λb hb=>Hg
    have hlen:(cs++ys.flatMap PD.cells).length=(cur.toList.take cs.length++fly).length:=by rw[yAa,yAa,<-b6.1,hcut,hn]
    have hall:∃b0 C0 j6,Value.slice (some ⟨c.w.heap.size,0,none⟩) 0 C2=.slice (some ⟨b0,0,none⟩) 0 C0/\w'.heap[b0]?=some (.cells j6 e' (0,0))/\j6.size=C0*i.size/\C0<=maxLen/\0<i.size /\
      (cs++ys.flatMap PD.cells).length<=j6.size/\aY c (j6.toList.take (cs++ys.flatMap PD.cells).length) (cs++ys.flatMap PD.cells)/\∀v∈j6.toList,v.oneCell'=true:=by
     refine⟨c.w.heap.size,C2,LF,rfl,g2,g3,g5,hpos,?_,?_,g6⟩
     .rw[hlen];have:=yAL List.length g7;exact ud
     .rw[hlen,g7,yCt];exact e7.append b6
    have hk:∀k,k<c.w.heap.size->bE (c.ρ id)≠some k->w'.heap[k]?=c.w.heap[k]?:=λk hk _=>g1.block k hk Ck
    have h0:w'.os=c.w.os/\w'.tape=c.w.tape/\w'.output=c.w.output/\c.w.heap.size<=w'.heap.size:=⟨g1.os,g1.tape,g1.output,g1.size⟩;refine⟨_,w',r,c.put w' id (.slice (some ⟨c.w.heap.size,0,none⟩) 0 C2) (.row e' i.size (fS+1) (cs++ys.flatMap PD.cells)),rfl,rfl,Sr.putRow hs hp.1 hq (yCf _) (λh=>Cj) h0 hk (.inr hbk) hall,
     Nx.putRow hs hp.1 hq hfl (yCf _) (λh=>Cj) h0 hk (.inr hbk),?_,λi hi=>.inl hi⟩
    refine .aO _ _ _ _ _ _ _ ⟨hp.1,λe0 DC v1 BN hq1=>?_⟩ g4 g5;exact me
 .cases h
theorem aI4(hs:Sr c){fn:Nat}{t:TypeId}{s x p:PD}{σ':Jp}(h:dM P fn fl c.σ t s x=some (p,σ')){vs vx:Value}(hvs:VR c vs s)(hvx:VR c vx x)(ty:TypeId) :
  ∃v w',(Builtin.append_ #[t,t] ty #[vs,vx]).run P c.w=.ok v w'/\Leaves fl c p σ' v w':=by
 refine aCp hs h hvs λe i z sz' ys hu hw hi hz hzs hpos hz1 FU=>?_
 obtain⟨B,cx,fly,rfl,b1,b2,b3,b4,b5,b6⟩:=aJb hs hw hvx;have hly:fly.length=ys.length*i.size:=by
  rcases FU with h0|h0
  .rw[b3,h0];simp
  .rw[b3,h0]
 refine⟨fly,hly,b4,b6,λh0 A n cap hn=>?_,λhm A n cap flx hA hlx hx FQ hcap hmax hby=>aJc hu hi hz hzs hpos hz1 hA hlx hx hly b5 FQ b4 hm hcap hmax hby,λb off n cap hroom=>aJd hu hi hly b5 hroom⟩;have hfy:fly=[]:=yAf (by rw[hly,h0];simp);subst hfy;have hfy:(Builtin.firstCells i.size 0 (.slice B 0 cx)).run P c.w=.ok #[] c.w:=by
  cases B<;>simp[Builtin.firstCells,loadCells,loadCellsFrom]
 rw[h0];exact uk
theorem aJe{w:World}{t u ty e:TypeId}{i:TypeInfo}(hu:P.underlying t=some (.slice e))(hs:P.underlying u=some .string)(hi:P.info? e=some i)(hz:i.zero=some (.int .u8 0))(hsz:i.size=1)(hby:i.bytes=1)(l:List UInt8) :
  aCo P w t u ty e i (.string ⟨l.toArray⟩) l.length (l.map λb=>.int .u8 b.toNat):=by
 have hsl:(ByteArray.mk l.toArray).size=l.length:=Fg;have hcl:Lib.strCells ⟨l.toArray⟩=l.map λb=>Value.int .u8 b.toNat:=by simp[Lib.strCells]
 have hone:∀v∈l.map (λb=>Value.int .u8 b.toNat),v.oneCell'=true:=λv hv=>by
  exact qo
 have DJ:∀v∈(Value.int IntKind.u8 0).cells.toList,v.oneCell'=true:=λv hv=>by
  have:v=.int .u8 0:=by simpa [Value.cells]using hv
  rw[this];rfl
 refine⟨λh0 A n cap hn=>(aCr hu hs hi hz hsz hby l).none_ h0 A n cap hn,λhm A n cap flx hA hlx hx FQ hcap hmax hb=>?_,λb off n cap hroom=>?_⟩
 .have fin:∀old,old<n+l.length->w.grownBy (w.drew.alloc (.cells (flx.toArray++(l.map λb=>Value.int .u8 b.toNat).toArray++Builtin.zeroCells (Value.int .u8 0).cells (grownCap w (n+l.length) old e-(n+l.length))) e)) none /\
    (w.drew.alloc (.cells (flx.toArray++(l.map λb=>Value.int .u8 b.toNat).toArray++Builtin.zeroCells (Value.int .u8 0).cells (grownCap w (n+l.length) old e-(n+l.length))) e)).heap[w.heap.size]?=some (.cells (flx.toArray++(l.map λb=>Value.int .u8 b.toNat).toArray++Builtin.zeroCells (Value.int .u8 0).cells (grownCap w (n+l.length) old e-(n+l.length))) e (0,0)) /\
    (flx.toArray++(l.map λb=>Value.int .u8 b.toNat).toArray++Builtin.zeroCells (Value.int .u8 0).cells (grownCap w (n+l.length) old e-(n+l.length))).size=grownCap w (n+l.length) old e*i.size/\n+l.length<=grownCap w (n+l.length) old e/\grownCap w (n+l.length) old e<=maxLen /\
    (∀v∈(flx.toArray++(l.map λb=>Value.int .u8 b.toNat).toArray++Builtin.zeroCells (Value.int .u8 0).cells (grownCap w (n+l.length) old e-(n+l.length))).toList,v.oneCell'=true)/\∃rest,(flx.toArray++(l.map λb=>Value.int .u8 b.toNat).toArray++Builtin.zeroCells (Value.int .u8 0).cells (grownCap w (n+l.length) old e-(n+l.length))).toList=flx++(l.map λb=>Value.int .u8 b.toNat)++rest:=by
   intro old ho;have hge:=yDc w (n+l.length) old e;have hcm:grownCap w (n+l.length) old e<=maxLen:=yDy w (n+l.length) old e hmax;have hz1:(Value.int IntKind.u8 0).cells.size=1:=rfl;refine⟨⟨rfl,rfl,rfl,Ck,λk hk _=>yDd w.drew _ hk⟩,yBW w.drew _,?_,hge,hcm,?_,_,by simp only[yDe];rfl⟩
   .rw[hsz]at hlx ⊢;simp only[yDz,yCl,yCP,hz1,hlx,yAe];omega
   .intro v hv;simp only[yDe,yBh]at hv;rcases hv with(hv|hv)|hv
    .exact FQ v hv
    .exact hone v hv
    .exact H3 DJ Cn _ v hv
  cases A with
  |none=>
   obtain⟨rfl,rfl⟩:=hA rfl;have FT:flx=[]:=yAf Ix;subst FT;have hr:=run_append_nil_string (P:=P) w t u ty e i (.int .u8 0) hu hs hi hz ⟨l.toArray⟩ (by rw[hsl];omega) Fq (by rw[hby,hsl];rw[hby]at hb;omega);have e1:((ByteArray.mk l.toArray).data.map λb=>Value.int .u8 b.toNat)=(l.map λb=>Value.int .u8 b.toNat).toArray:=Ck;rw[hsl,e1]at hr;exact tc
  |some ad=>
   have holds:∀(j:Nat) (u:Value),flx[j]?=some u->w.cell? (ad.add j)=some u:=λj u hj=>by
    obtain⟨H4,e',h9⟩:=hx j u hj;exact lz
   have hr:=Lib.run_append_grow_string (P:=P) w t u ty e i (.int .u8 0) hu hs hi hz ad n cap flx hlx holds ⟨l.toArray⟩ Cj Fq (by rw[hby,hsl];exact growslice_fits Cj (by rw[hby]at hb;omega));rw[hsl,hcl]at hr;exact⟨_,_,_,hr,fin cap hcap⟩
 .have hf:=Lib.run_firstCells_string (P:=P) w i.size ⟨l.toArray⟩;rw[hsl,hcl]at hf;simp[Builtin.append_,yAM hu,yAM hs,sizeOf,typeInfo,hi,Builtin.lenOf,hsl,hroom,hf,tY]
theorem aI6(hs:Sr c){fn:Nat}{t u:TypeId}{s p:PD}{l:Jr}{σ':Jp}(hst:P.underlying u=some .string)(hb:HP P t=true)(h:dM P fn fl c.σ t s (VA l)=some (p,σ')){vs:Value}(hvs:VR c vs s)(ty:TypeId) :
  ∃v w',(Builtin.append_ #[t,u] ty #[vs,.string ⟨l.toArray⟩]).run P c.w=.ok v w'/\Leaves fl c p σ' v w':=by
 refine aCp hs h hvs λe i z sz' ys hu hw hi hz hzs hpos hz1 FU=>?_
 simp only[VA,tV,yAb,yAc]at hw;obtain⟨_,rfl⟩:=hw;simp only[HP,hu,hi,hz]at hb;split at hb
 rotate_left
 .cases hb
 rename_i heq;simp only[yAb]at heq;subst heq;simp only[yAr,yCc]at hb;refine⟨l.map λb=>.int .u8 b.toNat,by simp[hb.1],λv hv=>?_,?_,?_⟩
 .exact qo
 .rw[PZ];refine⟨Ck,λj v d h1 h2=>?_⟩;exact Ad
 .rw[yAe];exact aJe hu hst hi hz hb.1 hb.2 l
theorem aI8(hs:Sr c){n:Nat}{t u:TypeId}{s p:PD}{m:Int}{σ':Jp}(hst:P.underlying u=some (.int .i64))(h:HQ P n c.σ t s m=some (p,σ')){vs:Value}(hvs:VR c vs s)(ty:TypeId) :
  ∃v w',(Builtin.append_ #[t,u] ty #[vs,.int .i64 m]).run P c.w=.ok v w'/\Leaves fl c p σ' v w':=by
 unfold HQ at h;cases h
theorem aIZ(hs:Sr c){t:TypeId}{s:PD}{σ':Jp}(h:VB P fl c.σ t s=some σ'){vs:Value}(hvs:VR c vs s)(ty:TypeId) :
  ∃v w',(Builtin.clear_ #[t] ty #[vs]).run P c.w=.ok v w'/\Leaves fl c (.aH []) σ' v w':=by
 unfold VB at h;cases h
theorem aI0(hs:Sr c){dt st:TypeId}{d x p:PD}{σ':Jp}(h:VC P fl c.σ dt st d x=some (p,σ')){vd vx:Value}(hd:VR c vd d)(hx:VR c vx x)(ty:TypeId) :
  ∃v w',(Builtin.copy_ #[dt,st] ty #[vd,vx]).run P c.w=.ok v w'/\Leaves fl c p σ' v w':=by
 unfold VC at h;cases h
theorem bytes_beq(a b:List UInt8):(ByteArray.mk a.toArray==ByteArray.mk b.toArray)=(a==b):=by
 have h:(ByteArray.mk a.toArray==ByteArray.mk b.toArray)=(a.toArray==b.toArray):=rfl;rw[h];simp
def LG(d:TypeDesc)(k:PD):Prop:=(d=.string/\∃s,k=.str s)\/∃k0 n,d=.int k0/\k=.int k0 n
theorem aCs{kt:TypeId}{k:PD}(h:H9 P kt k=true):∃d,P.underlying kt=some d/\LG d k:=by
 unfold H9 at h;split at h
 .rename_i s hu;exact⟨_,hu,.inl ⟨rfl,_,rfl⟩⟩
 .rename_i k0 k1 n hu;simp only[yCc]at h;subst h;exact⟨_,hu,.inr ⟨_,_,rfl,rfl⟩⟩
 .cases h
theorem aCt{d:TypeDesc}{k q:PD}(hd:LG d k){vk vq:Value}(hk:VR c vk k)(hq:VR c vq q){b:Bool}(h:FV k q=some b):Instr.sameNow d vk vq=some b/\(b=true->vk=vq):=by
 rcases hd with⟨rfl,s,rfl⟩ | ⟨k0,n,rfl,rfl⟩
 .rw[hk.tU];cases q<;>simp only[FV,reduceCtorEq]at h
  rw[hq.tU];simp only[yAb]at h;subst h;refine⟨by simp only[Instr.sameNow,bytes_beq],λh=>?_⟩;rw[eq_of_beq h]
 .rw[hk.qV];cases q<;>simp only[FV,reduceCtorEq]at h
  rw[hq.qV];split at h
  .rename_i hkk;subst hkk;simp only[yAb]at h;subst h;refine⟨by simp[Instr.sameNow],λh=>?_⟩;rw[eq_of_beq h]
  .cases h
theorem aY.tail{v:Value}{vs:Js}{d:PD}{ds:Jq}(h:aY c (v::vs) (d::ds)):aY c vs ds:=⟨by have:=h.1;simpa using this,λi u x a b=>h.2 (i+1) u x Fj Fk⟩
theorem LH{d:TypeDesc}{k:PD}(hd:LG d k){vk:Value}(hk:VR c vk k):∀(ents:List MapEntry) (ms:List (PD×PD)) (i:Nat) (r:Option (Nat×PD)),aY c (ents.map MapEntry.key) (ms.map Prod.fst)->aY c (ents.map MapEntry.val) (ms.map Prod.snd)->xM k ms i=some r ->
  match r with
  |some (j,v)=>∃en,i<=j/\ents[j-i]?=some en/\VR c en.val v/\en.key=vk/\Instr.findNow d vk ents i=some (some (j,en.val))
  |none=>Instr.findNow d vk ents i=some none
 | [],[],i,r,_,_,h=>by
   simp only[xM,yAb]at h;subst h;rfl
 | [],_::_,_,_,h,_,_=>by have:=h.1;simp at this
 |_::_,[],_,_,h,_,_=>by have:=h.1;simp at this
 |en::ents,m::ms,i,r,h1,h2,h=>by
  have hk0:VR c en.key m.1:=h1.2 0 _ _ rfl rfl;have jL:VR c en.val m.2:=h2.2 0 _ _ rfl rfl;unfold xM at h;split at h
  .rename_i he;simp only[yAb]at h;subst h;obtain⟨q1,q2⟩:=aCt hd hk hk0 he;refine⟨en,yAk _,Ck,jL,(q2 rfl).symm,?_⟩;simp[Instr.findNow,q1]
  .rename_i he;obtain⟨q1,_⟩:=aCt hd hk hk0 he;have ih:=LH hd hk ents ms (i+1) r h1.tail h2.tail h;cases r with
   |none=>
    simp only at ih ⊢;simp[Instr.findNow,q1,ih]
   |some jv=>
    obtain⟨j,v⟩:=jv;simp only at ih ⊢;obtain⟨en',g1,g2,g3,g4,g5⟩:=ih;refine⟨en',Cj,?_,g3,g4,?_⟩
    .rw[show j-i=(j-(i+1))+1 by omega];simpa using g2
    .simp[Instr.findNow,q1,g5]
  .cases h
theorem LI{w:World}{kt:TypeId}{d:TypeDesc}{k:PD}(hu:P.underlying kt=some d)(hd:LG d k){vk:Value}(hk:VR c vk k)(e:Bool):(Instr.checkKey e 10000 kt vk).run P w=.ok () w:=by
 rcases hd with⟨rfl,s,rfl⟩ | ⟨k0,n,rfl,rfl⟩
 .rw[hk.tU];exact ux
 .rw[hk.qV];exact ux
theorem LJ{w:World}{kt:TypeId}{d:TypeDesc}{vk:Value}{l:List MapEntry}{a:Option (Nat×Value)}(hd:P.underlying kt=some d)(h:Instr.findNow d vk l 0=some a):(Instr.findKey kt vk l).run P w=.ok a w:=by
 simp[Instr.findKey,yAM hd,Result.andThen,h]
theorem P0{w:World}{r:Nat}{es:Array MapEntry}{clock:Nat}(hb:w.heap[r]?=some (.map es clock)):(getObj r).run P w=.ok (.map es clock) w:=by simp[getObj,Sem.run,hb]
theorem aCu{w:World}{r:Nat}{es:Array MapEntry}{clock:Nat}(o:Obj)(hb:w.heap[r]?=some (.map es clock)):(setObj r o).run P w=.ok () (w.putObj r o):=by simp[setObj,Sem.run,hb,World.putObj]
theorem aJf{d:TypeDesc}{k:PD}(hd:LG d k){vk:Value}(hk:VR c vk k)(w:World):(Instr.keyThatStays vk vk).run P w=.ok vk w:=by
 have:Instr.sameBits 10000 vk vk=true:=by
  rcases hd with⟨rfl,s,rfl⟩ | ⟨k0,n,rfl,rfl⟩
  .rw[hk.tU];simp only[Instr.sameBits,bytes_beq];simp
  .rw[hk.qV];simp[Instr.sameBits]
 simp[Instr.keyThatStays,this]
theorem aCv(hs:Sr c){id:Nat}{ms:List (PD×PD)}(hq:c.σ[id]?=some (.map ms)){vx:Value}(hx:VR c vx (.gC id)):∃b ents clock,vx=.map (some b)/\c.D id/\c.ρ id=.map (some b)/\c.w.heap[b]?=some (.map ents clock)/\aY c (ents.toList.map MapEntry.key) (ms.map Prod.fst)/\aY c (ents.toList.map MapEntry.val) (ms.map Prod.snd):=by
 obtain⟨b,rfl,hd,_,hr⟩:=hx.aJg;obtain⟨b',ents,clock,e1,e2,e3,e4⟩:=hs.map id ms hd hq;rw[hr]at e1;simp only[Value.map.injEq,yAb]at e1;subst e1;exact⟨b,ents,clock,rfl,hd,hr,e2,e3,e4⟩
theorem aI2(hs:Sr c){t:TypeId}{x k p:PD}{ok:Bool}(h:IA P c.σ t x k ok=some p){vx vk:Value}(hx:VR c vx x)(hk:VR c vk k):∃v,(Instr.lookup t vx vk ok).run P c.w=.ok v c.w/\VR c v p:=by
 have two:∀ {v:Value} {q:PD} (b:Bool),VR c v q->VR c (if ok then .tuple #[v,.bool b]else v) (if ok then .aH [q,.bool b]else q):=fun {v q} b hv=>by
  cases ok
  .exact hv
  .exact .aH [v,.bool b] [q,.bool b] rfl (λi u d h1 h2=>by
    match i with
    |0=>simp at h1 h2;subst h1;subst h2;exact hv
    |1=>simp at h1 h2;subst h1;subst h2;exact .bool b
    |i+2=>simp at h1)
 unfold IA at h;split at h
 rotate_left
 .cases h
 rename_i kt e hu;split at h
 rotate_left
 .cases h
 rename_i hki;obtain⟨d,hkt,hd⟩:=aCs hki;split at h
 .rename_i id;split at h
  rotate_left
  .cases h
  rename_i ms hq;obtain⟨b,ents,clock,rfl,_,_,e2,e3,e4⟩:=aCv hs hq hx;split at h
  .rename_i j v hf;simp only[yAb]at h;subst h;obtain⟨en,_,_,g3,_,g5⟩:=LH hd hk _ _ 0 _ e3 e4 hf;refine⟨_,?_,two true g3⟩;simp[Instr.lookup,yAM hu,P0 e2,LI hkt hd hk,LJ hkt g5]
  .rename_i hf;split at h
   .rename_i z hz;simp only[yAb]at h;subst h;obtain⟨zv,i,hi,hzv,hzr⟩:=FN (c:=c) hz;have g5:=LH hd hk _ _ 0 _ e3 e4 hf;have LK:(zeroValue e).run P c.w=.ok zv c.w:=Gx;refine⟨_,?_,two false hzr⟩;simp[Instr.lookup,yAM hu,P0 e2,LI hkt hd hk,LJ hkt g5,LK]
   .cases h
  .cases h
 .split at h
  .rename_i z hz;simp only[yAb]at h;subst h;have hvx:vx=.map none:=by cases hx;rfl
   subst hvx;obtain⟨zv,i,hi,hzv,hzr⟩:=FN (c:=c) hz;have LK:(zeroValue e).run P c.w=.ok zv c.w:=Gx;have g5:Instr.findNow d vk [] 0=some none:=rfl;refine⟨_,?_,two false hzr⟩;simp[Instr.lookup,yAM hu,LI hkt hd hk,LJ hkt g5,LK]
  .cases h
 .cases h
theorem aY.set{vs:Js}{ds:Jq}(h:aY c vs ds){v:Value}{p:PD}(hv:VR c v p)(j:Nat):aY c (vs.set j v) (ds.set j p):=by
 refine⟨by simp[h.1],λi u d h1 h2=>?_⟩;rw[yCX]at h1 h2;split at h1
 .rename_i e;rw[yAJ e]at h2;split at h1
  .split at h2
   .simp only[yAb]at h1 h2;subst h1;subst h2;exact hv
   .cases h2
  .cases h1
 .rename_i e;rw[yAI e]at h2;exact h.2 i u d h1 h2
theorem aI3(hs:Sr c){t:TypeId}{x k v:PD}{σ':Jp}(h:IB P fl c.σ t x k v=some σ'){vx vk vv:Value}(hx:VR c vx x)(hk:VR c vk k)(hv:VR c vv v) :
  ∃w',(Instr.mapUpdate t vx vk vv).run P c.w=.ok () w'/\Leaves fl c (.aH []) σ' undef w':=by
 unfold IB at h;split at h
 rotate_left
 .cases h
 rename_i kt e hu;split at h
 rotate_left
 .cases h
 rename_i hki;obtain⟨d,hkt,hd⟩:=aCs hki;split at h
 rotate_left
 .cases h
 rename_i id;split at h
 rotate_left
 .cases h
 rename_i hfl;split at h
 rotate_left
 .cases h
 rename_i ms hq;obtain⟨b,ents,clock,rfl,hD,hr,e2,e3,e4⟩:=aCv hs hq hx;have hb:bE (c.ρ id)=some b:=Ej;split at h
 .rename_i j v0 hf;simp only[yAb]at h;subst h;obtain⟨en,_,g2,g3,g4,g5⟩:=LH hd hk _ _ 0 _ e3 e4 hf;simp only[yDt]at g2;subst g4;have g2':ents[j]?=some en:=by simpa using g2
  have hst:(Instr.mapUpdate t (.map (some b)) en.key vv).run P c.w=.ok () (c.w.putObj b (.map (ents.modify j λe=>{ e with key:=en.key,val:=vv }) clock)):=by
   simp[Instr.mapUpdate,yAM hu,P0 e2,LI hkt hd hk,LJ hkt g5,g2',aJf hd hk,aCu _ e2]
  have hkeys:((ents.modify j λe=>{ e with key:=en.key,val:=vv }).toList.map MapEntry.key)=(ents.toList.map MapEntry.key).set j en.key:=by
   exact gm
  have hvals:((ents.modify j λe=>{ e with key:=en.key,val:=vv }).toList.map MapEntry.val)=(ents.toList.map MapEntry.val).set j vv:=by
   exact gm
  refine⟨_,hst,_,rfl,rfl,Sr.wM (o':=.map (ms.set j (k,v))) hs hD hq trivial trivial hb e2 Ck ⟨⟨_,_,rfl,?_,?_⟩,hr⟩,Nx.wM hs hD hq trivial trivial hb hfl e2 Ck,LL _,λi hi=>.inl hi⟩
  .rw[hkeys,yCQ];exact e3.set hk j
  .rw[hvals,yCQ];exact e4.set hv j
 .rename_i hf;simp only[yAb]at h;subst h;have g5:=LH hd hk _ _ 0 _ e3 e4 hf;have hst:(Instr.mapUpdate t (.map (some b)) vk vv).run P c.w=.ok () (c.w.putObj b (.map (ents.push { key:=vk,val:=vv,born:=clock }) (clock+1))):=by
   simp[Instr.mapUpdate,yAM hu,P0 e2,LI hkt hd hk,LJ hkt g5,aCu _ e2]
  have one:∀ {v:Value} {p:PD},VR c v p->aY c [v] [p]:=λh=>⟨rfl,λi u d h1 h2=>by
   match i with
   |0=>simp at h1 h2;subst h1;subst h2;exact h
   |i+1=>simp at h1⟩
  refine⟨_,hst,_,rfl,rfl,Sr.wM (o':=.map (ms++[(k,v)])) hs hD hq trivial trivial hb e2 Ck ⟨⟨_,_,rfl,?_,?_⟩,hr⟩,Nx.wM hs hD hq trivial trivial hb hfl e2 Ck,LL _,λi hi=>.inl hi⟩
  .simp only[Array.toList_push,yAH];exact e3.append (one hk)
  .simp only[Array.toList_push,yAH];exact e4.append (one hv)
 .cases h
theorem aI1(hs:Sr c)(t:TypeId):∃v w',(Instr.makeMap t none).run P c.w=.ok v w'/\Leaves fl c (.gC c.σ.length) (c.σ++[.map []]) v w':=by
 have hbk:∀b,bE (.map (some c.w.heap.size))=some b->c.w.heap.size<=b/\b<(c.w.alloc (.map #[] 0)).heap.size:=λb hb=>by
  simp[bE]at hb;subst hb;simp
 refine⟨.map (some c.w.heap.size),c.w.alloc (.map #[] 0),rfl,c.push (c.w.alloc (.map #[] 0)) (.map (some c.w.heap.size)) (.map []),rfl,rfl,?_,Nx.push hs (zA _ _) (λb hb=>(hbk b hb).1),?_,?_⟩
 .exact Sr.push hs (zA _ _) hbk ⟨_,#[],0,rfl,yBW _ _,⟨rfl,Ck⟩,⟨rfl,Ck⟩⟩
 .exact .gC _ _ (.inr rfl) (by rw[iQ.1];trivial) iQ.2.1
 .exact dw
end
end
section
open Go.RowKit
section
variable{P:Program}{c:Cx}{fl:Nat}
def aCn(P:Program)(o:Oper)(a:Act)(w:World)(v:Value)(w':World):Prop:=
 (execOp a.eval o).run P w=.ok (.value v) w'\/((execOp a.eval o).run P w=.ok .skip w'/\v=undef)
theorem aIS(hs:Sr c)(hX:Xw fl c){a:Act}{fr:Jq}(hf:FR c a fr){o:Oper}{p:PD}{σ':Jp}(h:dE P fl fr c.σ o.op=some (p,σ')) :
  ∃v w',aCn P o a c.w v w'/\Leaves fl c p σ' v w':=by
 obtain⟨dst,op,ty,pos,after,guard⟩:=o;simp only at h;unfold dE at h;split at h
 .rename_i t x;split at h
  .rename_i pa h1;split at h
   .rename_i q hq;simp only[yAb,yAc]at h;obtain⟨rfl,rfl⟩:=h;obtain⟨v,r,hv⟩:=aBY hs hq (eT hf h1);exact kr
   .exact ak
  .exact ak
 .rename_i t x y;split at h
  .rename_i pa pb h1 h2;split at h
   .rename_i s' hs';simp only[yAb,yAc]at h;obtain⟨rfl,rfl⟩:=h;obtain⟨w',r,hl⟩:=aIT hs hs' (eT hf h1) (eT hf h2);exact⟨undef,w',.inr ⟨Il,rfl⟩,hl⟩
   .exact ak
  .exact ak
 .rename_i t;split at h
  .rename_i q hq;split at h
   .rename_i hpl;simp only[yAb,yAc]at h;obtain⟨rfl,rfl⟩:=h;obtain⟨zv,i,hi,hzv,hzr⟩:=FN (c:=c) hq;obtain⟨r,hl⟩:=UY (P:=P) (fl:=fl) hs (PL hq hi hzv t) (aY.zH hzr.cells hpl) t (λt' ds e=>PM hzr e);refine⟨_,_,.inl ?_,hl⟩;simp[execOp,Instr.alloc,zeroValue,typeInfo,hi,hzv,r]
   .exact ak
  .exact ak
 .rename_i t x;split at h
  .rename_i q hq;split at h
   .rename_i hpl;simp only[yAb,yAc]at h;obtain⟨rfl,rfl⟩:=h;obtain⟨r,hl⟩:=UY (P:=P) (fl:=fl) hs (eT hf hq).cells (aY.zH (eT hf hq).cells hpl) t (λt' ds e=>(by have:=eT hf hq;rw[e]at this;exact this.aIU.elim));refine⟨_,_,.inl ?_,hl⟩;simp[execOp,Instr.box,r]
   .exact ak
  .exact ak
 .rename_i t len parts;split at h
  .rename_i ps h1;split at h
   .rename_i q hq;simp only[yAb,yAc]at h;obtain⟨rfl,rfl⟩:=h;obtain⟨a1,a2⟩:=PV hf h1;obtain⟨v,w',r,hl⟩:=aIV (fl:=fl) hs (vparts:=parts.toList.map λq=>(q.1,a.eval q.2)) hq (by simpa using a1) (λi jv jp h3 h4=>by
     rw[yAo]at h4;cases hx:ps[i]? with
     |none=>rw[hx]at h4;simp at h4
     |some x=>
      rw[hx]at h4;simp only[yAC,yAb]at h4;subst h4;exact⟨(a2 i jv x h3 hx).1,(a2 i jv x h3 hx).2.strip⟩)
    refine⟨v,w',.inl ?_,hl⟩;have e:(Array.map (λx=>match x with|(i,x)=>(i,a.eval x)) parts)=(parts.toList.map λq=>(q.1,a.eval q.2)).toArray:=Ep;simp only[execOp,yBb];rw[e,r];simp
   .exact ak
  .exact ak
 .rename_i s d x;split at h
  .split at h
   .rename_i q hq;split at h
    .rename_i r hr;simp only[yAb,yAc]at h;obtain⟨rfl,rfl⟩:=h;obtain⟨v,w',r,hl⟩:=aIW (fl:=fl) hs hr (eT hf hq);exact⟨v,w',.inl Il,hl⟩
    .split at h
     .rename_i r hr;simp only[yAb,yAc]at h;obtain⟨rfl,rfl⟩:=h;obtain⟨v,r,hv⟩:=aIX hs hr (eT hf hq);exact kr
     .exact ak
   .exact ak
  .exact ak
 .rename_i t l k;split at h
  .rename_i e l' k' hu h1 h2;have hl:∃kl,a.eval l=.int kl (l':Int):=by
    cases hx:bD fr l with
    |none=>rw[hx]at h1;cases h1
    |some q=>
     rw[hx]at h1;obtain⟨kl,zl,e1,e2,e3⟩:=FO h1 (eT hf hx);exact⟨kl,by rw[e1,<-e3];congr 1;omega⟩
   have hk:∃kk,a.eval k=.int kk (k':Int):=by
    cases hx:bD fr k with
    |none=>rw[hx]at h2;cases h2
    |some q=>
     rw[hx]at h2;obtain⟨kl,zl,e1,e2,e3⟩:=FO h2 (eT hf hx);exact⟨kl,by rw[e1,<-e3];congr 1;omega⟩
   obtain⟨kl,hl⟩:=hl;obtain⟨kk,hk⟩:=hk;obtain⟨v,w',r,hlv⟩:=aIY (fl:=fl) hs hu h kl kk;exact⟨v,w',.inl (by simp[execOp,hl,hk,r]),hlv⟩
  .exact ak
 .rename_i args ts;split at h
  .rename_i s t h1 h2;split at h
   .rename_i s' hs';simp only[yAb,yAc]at h;obtain⟨rfl,rfl⟩:=h;have hv:=tT hf h1;have hvl:=hv.1;obtain⟨args⟩:=args;obtain⟨ts⟩:=ts;simp only at h1 hv hvl h2
    match args,hv,hvl with
    | [x1],hv,_=>
      subst h2;obtain⟨v,w',r,hl⟩:=aIZ (fl:=fl) hs hs' (hv.2 0 _ _ rfl rfl) ty;exact fk
   .exact ak
  .exact ak
 .rename_i args ts;split at h
  .rename_i d x t t' h1 h2;have hv:=tT hf h1;have hvl:=hv.1;obtain⟨args⟩:=args;obtain⟨ts⟩:=ts;simp only at h1 hv hvl h2
   match args,hv,hvl with
   | [x1,x2],hv,_=>
     subst h2;obtain⟨v,w',r,hl⟩:=aI0 (fl:=fl) hs h (hv.2 0 _ _ rfl rfl) (hv.2 1 _ _ rfl rfl) ty;exact fk
  .exact ak
 .rename_i t;split at h
  .simp only[yAb,yAc]at h;obtain⟨rfl,rfl⟩:=h;obtain⟨v,w',r,hl⟩:=aI1 (P:=P) (fl:=fl) hs t;exact⟨v,w',.inl Il,hl⟩
  .exact ak
 .rename_i t x k ok;split at h
  .rename_i m k' h1 h2;split at h
   .rename_i q hq;simp only[yAb,yAc]at h;obtain⟨rfl,rfl⟩:=h;obtain⟨v,r,hv⟩:=aI2 hs hq (eT hf h1) (eT hf h2);exact kr
   .exact ak
  .exact ak
 .rename_i t x k v;split at h
  .rename_i m k' v' h1 h2 h3;split at h
   .rename_i s' hs';simp only[yAb,yAc]at h;obtain⟨rfl,rfl⟩:=h;obtain⟨w',r,hl⟩:=aI3 (fl:=fl) hs hs' (eT hf h1) (eT hf h2) (eT hf h3);exact⟨undef,w',.inr ⟨Il,rfl⟩,hl⟩
   .exact ak
  .exact ak
 .rename_i args ts;split at h
  .rename_i s x t t' h1 h2;split at h
   .rename_i htt;subst htt;have hv:=tT hf h1;have hvl:=hv.1;obtain⟨args⟩:=args;obtain⟨ts⟩:=ts;simp only at h1 hv hvl h2
    match args,hv,hvl with
    | [x1,x2],hv,_=>
      subst h2;split at h
      .rename_i q hq;simp only[yAb]at h;subst h;obtain⟨v,w',r,hl⟩:=aI4 (fl:=fl) hs hq (hv.2 0 _ _ rfl rfl) (hv.2 1 _ _ rfl rfl) ty;exact fk
      .obtain⟨v,w',r,hl⟩:=aI5 hs hX h (hv.2 0 _ _ rfl rfl) (hv.2 1 _ _ rfl rfl).strip ty;exact fk
   .split at h
    .rename_i l hst;split at h
     .rename_i hb;have hv:=tT hf h1;have hvl:=hv.1;obtain⟨args⟩:=args;obtain⟨ts⟩:=ts;simp only at h1 hv hvl h2
      match args,hv,hvl with
      | [x1,x2],hv,_=>
        subst h2;have hx2:=(hv.2 1 _ _ rfl rfl).tU;split at h
        .rename_i q hq;simp only[yAb]at h;subst h;obtain⟨v,w',r,hl⟩:=aI6 (fl:=fl) hs hst hb hq (hv.2 0 _ _ rfl rfl) ty;exact iz
        .obtain⟨v,w',r,hl⟩:=aI7 hs hX hst hb h (hv.2 0 _ _ rfl rfl) ty;exact iz
     .exact ak
    .rename_i m hst;have hv:=tT hf h1;have hvl:=hv.1;obtain⟨args⟩:=args;obtain⟨ts⟩:=ts;simp only at h1 hv hvl h2
     match args,hv,hvl with
     | [x1,x2],hv,_=>
       subst h2;have hx2:=(hv.2 1 _ _ rfl rfl).qV;obtain⟨v,w',r,hl⟩:=aI8 (fl:=fl) hs hst h (hv.2 0 _ _ rfl rfl) ty;exact iz
    .exact ak
  .exact ak
 .exact ak
theorem aIN(hs:Sr c)(hX:Xw fl c){a:Act}{fr:Jq}(hf:FR c a fr){o:Oper}{p:PD}{σ':Jp}(h:pop P fl fr c.σ o.op=some (p,σ')) :
  ∃v w',aCn P o a c.w v w'/\Leaves fl c p σ' v w':=by
 unfold pop at h;split at h
 .rename_i q hq;simp only[yAb,yAc]at h;obtain⟨rfl,rfl⟩:=h;obtain⟨v,r,hv⟩:=aI9 hf hq c.w;exact⟨v,c.w,.inl r,c,rfl,rfl,hs,.refl _ _,hv,λ_ h=>.inl h⟩
 .exact aIS hs hX hf h
theorem aIL{a:Act}{fr:Jq}(hf:FR c a fr){o:Oper}{f:FuncId}{ps:Jq}(h:iU fr o.op=some (.inl f,ps)){fn:Func}(hfn:P.funcs[f]?=some fn)(hb:fn.body.isSome=true)(hn:(fn.name== "runtime.NumGoroutine")=false) :
  ∃vs:List Value,(execOp a.eval o).run P c.w=.ok (.enter f vs.toArray) c.w/\aY c vs ps:=by
 obtain⟨dst,op,ty,pos,after,guard⟩:=o;simp only at h;unfold iU at h;split at h
 .rename_i g args ts;split at h
  .rename_i f' cap qs h1 h2;simp only[yAb,yAc,yDL]at h;obtain⟨rfl,rfl⟩:=h;obtain⟨cs,e,hcs⟩:=(eT hf h1).K3;have hv:=tT hf h2;refine⟨args.toList.map a.eval++cs,?_,hv.append hcs⟩;have hb':fn.body.isNone=false:=Hs;have e2:(#[]++args.map a.eval++cs.toArray)=(args.toList.map a.eval++cs).toArray:=Ep;exact qw
  .rename_i f' first qs h1 h2;simp only[yAb,yAc,yDL]at h;obtain⟨rfl,rfl⟩:=h;obtain⟨cs,e,hcs⟩:=(eT hf h1).aCk;have hv:=tT hf h2;refine⟨cs++args.toList.map a.eval,?_,hcs.append hv⟩;have hb':fn.body.isNone=false:=Hs;have e2:(cs.toArray++args.map a.eval++#[])=(cs++args.toList.map a.eval).toArray:=Ep;exact qw
  .exact ak
  .exact ak
 .exact ak
theorem VR.aJa{v:Value}{id:Nat}(h:VR c v (.yield id)):∃l,v=.func (.yield l) #[] #[]/\c.D id/\mK c.σ[id]?/\c.ρ id=.pointer (some ⟨l,0,none⟩):=by
 cases h with|yield _ l h1 h2 h3=>exact⟨l,rfl,h1,h2,h3⟩
theorem aIM{a:Act}{fr:Jq}(hf:FR c a fr){o:Oper}{id:Nat}{ps:Jq}(h:iU fr o.op=some (.inr id,ps)) :
  ∃(l:Nat) (vs:List Value),(∀w:World,(execOp a.eval o).run P w=(Instr.yield l vs.toArray).run P w)/\aY c vs ps/\c.D id/\c.ρ id=.pointer (some ⟨l,0,none⟩):=by
 obtain⟨dst,op,ty,pos,after,guard⟩:=o;simp only at h;unfold iU at h;split at h
 .rename_i g args ts;split at h
  .exact ak
  .exact ak
  .rename_i id' qs h1 h2;simp only[yAb,yAc,Sum.inr.injEq]at h;obtain⟨rfl,rfl⟩:=h;obtain⟨l,e,hd,hn,hr⟩:=(eT hf h1).aJa;have hv:=tT hf h2;refine⟨l,args.toList.map a.eval,λw=>?_,hv,hd,hr⟩;have e2:(#[]++args.map a.eval)=(args.toList.map a.eval).toArray:=Ep;simp only[execOp,resolve,e,Deferred.ofValue,yBb,yBl,yBg,invoke,e2]
  .exact ak
 .exact ak
end
end
section
inductive PX where
 |normal
 |exit (id:Nat)
 |ret
def PX.K2:PX->Exit
 |.normal=>.normal
 |.exit id=>.exit id
 |.ret=>.ret
structure PO where
 x:PX
 fr:Jq
 ms:List Nat
 σ:Jp
abbrev cY:=Nat->FuncId ⊕ Nat->List PD->List aA->Option (PD×List aA)
abbrev uZ:=Option Nat->Code->Nat->List PD->List Nat->List aA->Option PO
abbrev aE:=FuncId->Option (Nat->List PD->List aA->Option (PD×List aA))
def cZ(P:Program)(call:cY)(fl:Nat)(fr:List PD)(σ:List aA)(op:Op):Option (PD×List aA):=
 match iU fr op with
 |some (tg,args)=>call fl tg args σ
 |none=>pop P fl fr σ op
def fI(P:Program)(call:cY)(fl:Nat)(ops:Array Oper):List Oper->List PD->List aA->Option (List PD×List aA)
 | [],fr,σ=>some (fr,σ)
 |o::rest,fr,σ=>
  if Region.wanted o (cH ops fr)then
   match cZ P call fl fr σ o.op with
   |some (p,σ')=>fI P call fl ops rest (bC fr o.dst p) σ'
   |none=>none
  else fI P call fl ops rest (bC fr o.dst (.aH [])) σ
def PU(P:Program)(call:cY)(fl:Nat)(ops:Array Oper):List Oper->List PD->List aA->Option (List PD×List aA)
 | ⟨some d,.buildSlice t len parts,_,_,_,none⟩::⟨d2,.convert s t' (.tmp d'),_,_,_,none⟩::rest,fr,σ=>
   match P.underlying t with
   |some (.slice e)=>match P.underlying e with
    |some (.int .u8)=>if s=t/\t'=t/\d'=d/\d<fr.length then
      match rI fr parts.toList with
      |some ps=>match uX P t len (ps.map λq=>(q.1,q.2.strip))with
       |some (.slice n xs .full)=>fI P call fl ops rest (bC (fr.set d (.slice n xs .full)) d2 (.slice n xs .full)) σ
       |_=>none
      |none=>none
     else none
    |_=>none
   |_=>none
 |_,_,_=>none
def DA(P:Program)(call:cY)(fl:Nat)(ops:Array Oper)(fr:List PD)(σ:List aA):Option (List PD×List aA):=
 match fI P call fl ops ops.toList fr σ with
 |some x=>some x
 |none=>PU P call fl ops ops.toList fr σ
def fB:Op->Bool
 |.convert s d _=>!FC s d
 |.move _|.assign _|.pick .. | .binOp .. | .unOp .. | .makeFunc .. | .slice .. | .fieldAddr .. | .field .. | .indexAddr .. | .index .. | .extract .. | .nilCheck _|.build ..=>true
 |.call { callee:=.builtin .len,.. } | .call { callee:=.builtin .min,.. } | .call { callee:=.builtin .max,.. }=>true
 |_=>false
def eJ:Op->Bool
 |.load ..=>true
 |.convert s d _=>FC s d
 |_=>false
def dA:Op->Bool
 |.alloc _=>true
 |_=>false
def mkSure(t:TypeId)(a b:Operand):Bool:=match a,b with
 |.const (.int _ l),.const (.int _ k)=>decide (l=k)&&decide (0<l)&&!U1 t
 |_,_=>false
def mS:Op->Bool
 |.buildSlice ..=>true
 |.makeSlice t a b=>mkSure t a b
 |_=>false
def fX:Op->Bool
 |.store ..=>true
 |_=>false
def dR:Op->Bool
 |.box ..=>true
 |.call { callee:=.value _,.. }=>true
 |.call { callee:=.builtin .append,.. }=>true
 |.call { callee:=.builtin .copy,.. }=>true
 |_=>false
def eS(o:Op):Bool:=fX o||dR o
def y5(acc:List Nat)(o:Oper):Nat:=
 o.after.toList.foldl (λs e=>if Region.binds .any e then s ||| 2^e.on ||| acc.getD e.on 0 else s) 0
def cP:List Oper->List Nat->List Nat
 | [],acc=>acc
 |o::r,acc=>cP r (acc++[y5 acc o])
def eR(f:Op->Bool)(ops:List Oper)(i:Nat):Bool:=((ops[i]?).map λo=>f o.op).getD false
def loose(ms:List Nat)(i j:Nat):Bool:=!(ms.getD i 0).testBit j&&!(ms.getD j 0).testBit i
def kT(ops:List Oper)(ms:List Nat)(k:Nat):Bool:=
 (List.range ops.length).all λi=>!eR eJ ops i||!loose ms i k
def aCh(ops:Array Oper)(i:Nat)(o:Oper):Bool:=
 (List.range ops.size).all λj=>j==i ||
  match ops[j]? with
  |none=>true
  |some oj=>match oj.dst with
   |none=>true
   |some d=>(o.dst != some d)&&(!(o.looksAt ops).contains d ||
     (if j<i then o.after.any (λe=>Region.binds .any e&&e.on==j)else oj.after.any (λe=>Region.binds .any e&&e.on==i)))
def wI(ops:Array Oper)(ms:List Nat):Bool:=
 Region.noSelect ops &&
 (List.range ops.size).all λi=>match ops[i]? with
  |none=>true
  |some o=>(fB o.op||eJ o.op||dA o.op||mS o.op||eS o.op)&&aCh ops i o&&o.after.all (λe=>!Region.binds .any e||e.on<i) &&
    (!eS o.op||(List.range i).all λj=>!eR eS ops.toList j||(ms.getD i 0).testBit j)
def mT(P:Program):List Oper->Option (List aA)
 | []=>some []
 |o::r=>match o.op with
  |.alloc t=>match fP P t,mT P r with
    |some p,some l=>if p.cells.all PD.plain then some (.box (boxed t p)::l)else none
    |_,_=>none
  |_=>mT P r
def gQ:PD->Option Nat
 |.ptr id _=>some id
 |.dG id _ _=>some id
 |.dU id _ _ _=>some id
 |_=>none
def kX(fr:List PD):Op->Option Nat
 |.load _ x=>match bD fr x with|some a=>gQ a|none=>none
 |.store _ x _=>match bD fr x with|some a=>gQ a|none=>none
 |.convert _ _ x=>match bD fr x with|some a=>gQ a|none=>none
 |_=>none
def iA(P:Program)(call:cY)(fl:Nat)(free:Bool)(k:Nat)(fr:List PD)(σ:List aA)(op:Op):Option (PD×List aA):=
 if fB op then(match eP P fr op with|some p=>some (p,σ)|none=>none)
 else if dA op then some (.ptr k 0,σ)
 else if dR op&&!free then
  match cZ P call (max fl σ.length) fr σ op with
  |some (p,σ')=>some (p,σ++σ'.drop σ.length)
  |none=>none
 else if dR op then cZ P call fl fr σ op
 else dE P fl fr σ op
structure TE where
 fr:Jq
 σ:Jp
 p:PD
 jV:Option Nat
def fE(P:Program)(call:cY)(fl:Nat)(ops:Array Oper)(ms:List Nat):Nat->Nat->List Oper->List PD->List aA->Option (List TE×Jq×List aA)
 |_,_,[],fr,σ=>some ([],fr,σ)
 |i,k,o::rest,fr,σ=>
  let k':=if dA o.op then k+1 else k
  if Region.wanted o (cH ops fr)then
   match iA P call fl (kT ops.toList ms i) k fr σ o.op with
   |some (p,σ')=>match fE P call fl ops ms (i+1) k' rest (bC fr o.dst p) σ' with
    |some (tr,fr',BK)=>some (⟨fr,σ,p,kX fr o.op⟩::tr,fr',BK)
    |none=>none
   |none=>none
  else match fE P call fl ops ms (i+1) k' rest (bC fr o.dst (.aH [])) σ with
   |some (tr,fr',BK)=>some (⟨fr,σ,.aH [],none⟩::tr,fr',BK)
   |none=>none
def pI(ops:List Oper)(ms:List Nat)(tr:List TE):Bool:=
 (List.range ops.length).all λk=>!eR fX ops k||(List.range ops.length).all λi=>!eR eJ ops i||!loose ms i k ||
  match ((tr[i]?).bind TE.jV),((tr[k]?).bind TE.jV)with
  |some a,some b=>a != b
  |_,_=>true
def nS(P:Program)(call:cY)(fl:Nat)(ops:Array Oper)(fr:List PD)(σ:List aA):Option (List PD×List aA):=
 let ms:=cP ops.toList []
 if wI ops ms then
  match mT P ops.toList with
  |some hs=>match fE P call fl ops ms 0 σ.length ops.toList fr (σ++hs)with
   |some (tr,fr',σ')=>if pI ops.toList ms tr then some (fr',σ')else none
   |none=>none
  |none=>none
 else none
def p8(P:Program)(call:cY)(fl:Nat)(ops:Array Oper):Nat->Nat->List Oper->List PD->List aA->Option (List TE×Jq×List aA)
 |_,_,[],fr,σ=>some ([],fr,σ)
 |i,k,o::rest,fr,σ=>
  let k':=if dA o.op then k+1 else k
  if Region.wanted o (cH ops fr)then
   match iA P call fl true k fr σ o.op with
   |some (p,σ')=>match p8 P call fl ops (i+1) k' rest (bC fr o.dst p) σ' with
    |some (tr,fr',BK)=>some (⟨fr,σ,p,kX fr o.op⟩::tr,fr',BK)
    |none=>none
   |none=>none
  else match p8 P call fl ops (i+1) k' rest (bC fr o.dst (.aH [])) σ with
   |some (tr,fr',BK)=>some (⟨fr,σ,.aH [],none⟩::tr,fr',BK)
   |none=>none
def TE.at(tr:List TE)(wO:List aA)(j:Nat):List aA:=match tr[j]? with
 |some t=>t.σ
 |none=>wO
def aIR(ops:List Oper)(ms:List Nat)(tr:List TE)(wO:List aA):Prop:=
 ∀(k i id:Nat) (ok oi:Oper),ops[k]?=some ok->ops[i]?=some oi->dR ok.op=true->eJ oi.op=true->loose ms i k=true->(tr[i]?).bind TE.jV=some id ->
  (TE.at tr wO k).length<=(TE.at tr wO (k+1)).length/\(id<(TE.at tr wO k).length->(TE.at tr wO (k+1))[id]?=(TE.at tr wO k)[id]?)
open Classical in
def mU(P:Program)(call:cY)(fl:Nat)(ops:Array Oper)(fr:List PD)(σ:List aA):Option (List PD×List aA):=
 match nS P call fl ops fr σ with
 |some x=>some x
 |none=>if wI ops (cP ops.toList [])then
  match mT P ops.toList with
  |some hs=>match p8 P call fl ops 0 σ.length ops.toList fr (σ++hs)with
   |some (tr,fr',σ')=>if pI ops.toList (cP ops.toList []) tr=true/\aIR ops.toList (cP ops.toList []) tr σ' then some (fr',σ')else none
   |none=>none
  |none=>none
 else none
def C7(P:Program)(fr:List PD)(σ:List aA):ResultVar->Option PD
 |.tmp t=>some (fr.getD t (.aH []))
 |.cell a t=>match fr.getD a (.aH [])with
   |.ptr id off=>qO P σ t (.ptr id off)
   |_=>none
def y6(P:Program)(fr:List PD)(σ:List aA):List ResultVar->Option (List PD)
 | []=>some []
 |r::rs=>match C7 P fr σ r,y6 P fr σ rs with
  |some p,some ps=>some (p::ps)
  |_,_=>none
def FF:List PD->PD
 | [p]=>p
 |ps=>.aH ps
def BD(fl:Nat):List Nat->List aA->Option (List aA)
 | [],σ=>some σ
 |m::ms,σ=>if fl<=m then(match σ[m]? with
  |some .mark=>BD fl ms (σ.set m .none)
  |_=>none)else none
def FE(fr:List PD):List Tmp->List PD->Jq
 |t::ts,p::ps=>FE (fr.set t p) ts ps
 |_,_=>fr
def K6(code:uZ)(fl:Nat)(id:Nat)(args:List PD)(σ:List aA):Option (PD×List aA):=
 if fl<=id then
  match σ[id]? with
  |some (.loop .ready fr ps assign body)=>
   if args.length=ps.length then
    match code (some id) assign fl (FE fr ps args) [] σ with
    |some ⟨.normal,aX,ms1,σ1⟩=>
     match σ1[id]? with
     |some (.loop .ready kW HS HT HU)=>
      match code (some id) body fl aX ms1 (σ1.set id (.loop .busy kW HS HT HU))with
      |some ⟨x,_,_,σ2⟩=>
       match σ2[id]? with
       |some (.loop .busy PI K7 PJ PK)=>
        match x with
        |.normal=>some (.bool true,σ2.set id (.loop .ready PI K7 PJ PK))
        |.ret=>some (.bool false,σ2.set id (.loop (.done .ret) PI K7 PJ PK))
        |.exit k=>some (.bool false,σ2.set id (.loop (.done (.exit k)) PI K7 PJ PK))
       |_=>none
      |none=>none
     |_=>none
    |_=>none
   else none
  |_=>none
 else none
def bQ(P:Program)(fl:Nat)(fn:Func)(r:PO):Option (PD×List aA):=
 match r.x with
 |.exit _=>none
 |_=>match BD fl r.ms r.σ with
  |some σ=>match y6 P r.fr σ fn.results.toList with
   |some ps=>some (FF ps,σ)
   |none=>none
  |none=>none
def FI(P:Program)(code:uZ)(fl:Nat)(f:FuncId)(args:List PD)(σ:List aA):Option (PD×List aA):=
 match P.funcs[f]? with
 |some fn=>match fn.body with
  |some c=>match code none c fl (args++List.replicate (fn.ntmps-args.length) (.aH [])) [] σ with
   |some r=>bQ P fl fn r
   |none=>none
  |none=>none
 |none=>none
def tN(P:Program)(E:aE)(code:uZ):cY
 |fl,.inl f,args,σ=>match E f with
  |some g=>g fl args σ
  |none=>FI P code fl f args σ
 |fl,.inr id,args,σ=>K6 code fl id args σ
def KX(id:Nat)(fr:List PD)(ms:List Nat)(σ:List aA):Option PO:=
 match σ[id]? with
 |some (.loop .ready _ _ _ _)=>some ⟨.normal,fr,ms,σ.set id .none⟩
 |some (.loop (.done .ret) _ _ _ _)=>some ⟨.ret,fr,ms,σ.set id .none⟩
 |some (.loop (.done (.exit k)) _ _ _ _)=>some ⟨.exit k,fr,ms,σ.set id .none⟩
 |_=>none
def K4(call:cY)(rd:Option Nat)(gf:FuncId)(cap:List PD)(ps:List Tmp)(assign body:Code)(fl:Nat)(fr:List PD)(ms:List Nat)(σ:List aA):Option PO:=
 if fl<=σ.length then
  match rd with
  |none=>match call fl (.inl gf) (.yield (σ.length+1)::cap) (σ++[.mark]++[.loop .ready fr ps assign body])with
   |some (_,σ2)=>KX (σ.length+1) fr (σ.length::ms) σ2
   |none=>none
  |some l=>match σ[l]? with
   |some (.loop _ _ _ _ _)=>match call fl (.inl gf) (.yield σ.length::cap) (σ++[.loop .ready fr ps assign body])with
    |some (_,σ2)=>KX σ.length fr ms σ2
    |none=>none
   |_=>none
 else none
def jU(P:Program)(E:aE):Nat->uZ
 |0=>λ_ _ _ _ _ _=>none
 |n+1=>λrd c fl fr ms σ=>
  match c with
  |.skip=>some ⟨.normal,fr,ms,σ⟩
  |.region _ ops false=>match DA P (tN P E (jU P E n)) fl ops fr σ with
    |some (fr',σ')=>some ⟨.normal,fr',ms,σ'⟩
    |none=>none
  |.region _ ops true=>match mU P (tN P E (jU P E n)) fl ops fr σ with
    |some (fr',σ')=>some ⟨.normal,fr',ms,σ'⟩
    |none=>none
  |.seq x y=>match jU P E n rd x fl fr ms σ with
    |some ⟨.normal,fr',ms',σ'⟩=>jU P E n rd y fl fr' ms' σ'
    |r=>r
  |.cond g x y=>match bD fr g with
    |some (.bool true)=>jU P E n rd x fl fr ms σ
    |some (.bool false)=>jU P E n rd y fl fr ms σ
    |_=>none
  |.block id b=>match jU P E n rd b fl fr ms σ with
    |some ⟨.exit k,fr',ms',σ'⟩=>some ⟨if k=id then .normal else .exit k,fr',ms',σ'⟩
    |r=>r
  |.loop b=>match jU P E n rd b fl fr ms σ with
    |some ⟨.normal,fr',ms',σ'⟩=>jU P E n rd (.loop b) fl fr' ms' σ'
    |r=>r
  |.rangeFunc g ps assign body=>match bD fr g with
    |some (.func gf cap)=>K4 (tN P E (jU P E n)) rd gf cap ps.toList assign body fl fr ms σ
    |_=>none
  |.exit id=>some ⟨.exit id,fr,ms,σ⟩
  |.ret=>some ⟨.ret,fr,ms,σ⟩
  |_=>none
def fA(P:Program)(E:aE)(n:Nat):cY:=tN P E (jU P E n)
end
section
open Go.RowKit
def FK(fl:Nat)(c:Cx)(p:PD)(σ':List aA):Ending->World->Prop
 |.returned v,w'=>Leaves fl c p σ' v w'
 |_,_=>False
structure Ok (F:Fence) (P:Program) (call:cY):Prop where
 fn:∀ {fl:Nat} {f:FuncId} {args:Jq} {c:Cx} {vs:Js} {p:PD} {σ':Jp},call fl (.inl f) args c.σ=some (p,σ')->Sr c->Xw fl c->aY c vs args ->
  (∃fn,P.funcs[f]?=some fn/\fn.body.isSome=true)/\∀m,CallsIn F m P f vs.toArray c.w (FK fl c p σ')
 round:∀ {fl id l:Nat} {args:Jq} {c:Cx} {vs:Js} {p:PD} {σ':Jp},call fl (.inr id) args c.σ=some (p,σ')->Sr c->Xw fl c->aY c vs args->c.D id->c.ρ id=.pointer (some ⟨l,0,none⟩) ->
  ∃g tmps asg bd,(Instr.yield l vs.toArray).run P c.w=.ok (.round l g tmps asg bd) c.w/\∀m,RoundIn F m P l g tmps asg bd c.w (FK fl c p σ')
structure Open (F:Fence) (P:Program):Prop where
 fn:∀f,F.fn f
 depth:F.depth=none
 name:∀(f:FuncId) fn,P.funcs[f]?=some fn->(fn.name== "runtime.NumGoroutine")=false
 alive:F.alive=false
section
variable{F:Fence}{P:Program}{call:cY}{c:Cx}{fl n:Nat}{Q:Exit->Act->World->Prop}
theorem Open.asks(hF:Open F P):F.depth.isSome=true->1<=n:=by rw[hF.depth];intro h;cases h
theorem aB6(hF:Open F P)(hc:Ok F P call)(hs:Sr c)(hX:Xw fl c){a:Act}{fr:Jq}(hf:FR c a fr){o:Oper}{p:PD}{σ':Jp}
  (h:cZ P call fl fr c.σ o.op=some (p,σ')) {K:Act->World->Prop} (hK:∀v w',Leaves fl c p σ' v w'->K (a.put o.dst v) w'):o.wpIn F n P a c.w K Q:=by
 have hnd:∀d,o.op≠.defer d:=by
  intro d e;rw[e]at h;simp[cZ,iU,pop,eP,dE]at h
 refine⟨λf _=>hF.fn f,?_⟩;rw[Oper.semAt_eq _ _ _ hnd];unfold cZ at h;split at h
 .rename_i tg args htg;cases tg with
  |inl f=>
   obtain⟨vs0,aIK⟩:∃vs:List Value,aY c vs args:=by
    unfold iU at htg;split at htg
    .split at htg
     .rename_i g args' ts f' cap qs h1 h2;simp only[yAb,yAc,yDL]at htg;obtain⟨rfl,rfl⟩:=htg;obtain⟨cs,e,hcs⟩:=(eT hf h1).K3;exact⟨_,(tT hf h2).append hcs⟩
     .rename_i f' first qs h1 h2;simp only[yAb,yAc,yDL]at htg;obtain⟨rfl,rfl⟩:=htg;obtain⟨cs,e,hcs⟩:=(eT hf h1).aCk;exact⟨_,hcs.append (tT hf h2)⟩
     .simp at htg
     .simp at htg
    .simp at htg
   obtain⟨⟨fn,hfn,hb⟩,_⟩:=hc.fn h hs hX aIK;obtain⟨vs,r,hvs⟩:=aIL (P:=P) hf htg hfn hb (hF.name f fn hfn);rw[r];refine⟨hF.asks,yCE ((hc.fn h hs hX hvs).2 _) λe w'' he=>?_⟩;exact qp
  |inr id=>
   obtain⟨l,vs,r,hvs,hd,hr⟩:=aIM (P:=P) hf htg;obtain⟨g,tmps,asg,bd,ry,hround⟩:=hc.round h hs hX hvs hd hr;rw[r,ry];refine⟨hF.asks,RoundIn.mono (hround _) λe w'' he=>?_⟩;exact qp
 .obtain⟨v,w',hy,hl⟩:=aIN (P:=P) hs hX hf h;rcases hy with hy | ⟨hy,rfl⟩
  .rw[hy];exact hK v w' hl
  .rw[hy];exact hK undef w' hl
theorem FR.put{a:Act}{fr:Jq}(hf:FR c a fr){v:Value}{p:PD}(hv:VR c v p)(dst:Option Tmp):FR c (a.put dst v) (bC fr dst p):=by
 cases dst with
 |none=>exact hf
 |some d=>
  refine⟨⟨by simpa [Act.put,bC]using hf.1.1,λi u q h1 h2=>?_⟩,hf.2⟩;simp only[Act.put,bC,yDZ,yCX]at h1 h2
  by_cases e:d=i
  .subst e;simp only[yAK]at h1 h2;split at h1
   .split at h2
    .simp only[yAb]at h1 h2;subst h1 h2;exact hv
    .simp at h2
   .simp at h1
  .rw[yAI e]at h1 h2;exact hf.1.2 i u q h1 h2
theorem VR.undef(c:Cx):VR c undef (.aH []):=.aH [] [] rfl (λi v d h=>Ea)
theorem VR.aCl{v:Value}{p:PD}(h:VR c v p)(b:Bool):v=.bool b↔p=.bool b:=by
 constructor
 .rintro rfl
  cases h with
  |bool=>rfl
  |gP _ h=>cases h
 .rintro rfl;cases h;rfl
theorem aIO{a:Act}{fr:Jq}(hf:FR c a fr)(ops:Array Oper)(j:Nat):yielded ops a.tmps j=cH ops fr j:=by
 unfold yielded cH;cases hd:(ops[j]?).bind (·.dst)with
 |none=>rfl
 |some d=>
  simp only[yCJ];have hl:=hf.1.1;rcases yCj d fr.length with hlt|hge
  .have hlt':d<a.tmps.toList.length:=by rw[hl];exact hlt
   have e1:a.tmps[d]?=some (a.tmps.toList[d]):=by rw[<-yCH];exact yAh hlt'
   have e2:fr[d]?=some fr[d]:=yAh hlt;have hv:=hf.1.2 d _ _ (yAh hlt') e2;rw[e1,e2];cases hx:fr[d]with
   |bool b=>rw[hx]at hv;rw[(hv.aCl b).2 rfl]
   |_=>
    rw[hx]at hv;cases hy:a.tmps.toList[d]with
    |bool b=>rw[hy]at hv;have:=(hv.aCl b).1 rfl;cases this
    |_=>rfl
  .have e1:a.tmps[d]?=none:=by rw[<-yCH];exact yBF (by rw[hl];exact hge)
   rw[e1,yBF hge]
theorem aB5{a:Act}{fr:Jq}(hf:FR c a fr)(ops:Array Oper)(o:Oper):Region.wanted o (yielded ops a.tmps)=Region.wanted o (cH ops fr):=by
 have:yielded ops a.tmps=cH ops fr:=funext λj=>aIO hf ops j
 rw[this]
theorem aBS(hF:Open F P)(hc:Ok F P call){ops:Ju}:∀(l:List Oper) (i:Nat) (_:ops.toList.drop i=l) {c:Cx} (_:Sr c) (_:Xw fl c) {a:Act} {fr:Jq} (_:FR c a fr) {fr':Jq} {σ':Jp}
  (_:fI P call fl ops l fr c.σ=some (fr',σ'))
  (_:∀c' a',c'.σ=σ'->Sr c'->Nx fl c c'->FR c' a' fr'->a'.defers=a.defers->Q .normal a' c'.w),wpOpsIn F n P ops Q (List.range' i l.length) a c.w:=by
 intro l
 induction l with
 |nil=>
  intro i _ c hs hX a fr hf fr' σ' h hQ;simp only[fI,yAb,yAc]at h;obtain⟨rfl,rfl⟩:=h;exact hQ c a rfl hs (.refl _ _) hf rfl
 |cons o rest ih=>
  intro i hdrop c hs hX a fr hf fr' σ' h hQ;have hi:i<ops.toList.length:=by
   rcases yCj i ops.toList.length with h' | h'
   .exact h'
   .rw[yAs h']at hdrop;cases hdrop
  have ho:ops[i]?=some o:=by
   have:ops.toList[i]?=some o:=by
    have:=yAL List.head? hdrop;simpa [yCC]using this
   rw[<-yCH];exact this
  have y9:ops.toList.drop (i+1)=rest:=by
   rw[<-yBD,hdrop];rfl
  simp only[yAT,yDv,wpOpsIn,ho];rw[aB5 hf];simp only[fI]at h;split at h
  .rename_i hw;rw[yAJ hw];split at h
   .rename_i p σ1 hst;refine aB6 hF hc hs hX hf hst λv w' hl=>?_
    obtain⟨c',rfl,rfl,hs',nx,hv,_⟩:=hl;exact ih (i+1) y9 hs' (hX.next hs nx) ((hf.mono nx).put hv _) h
     (λLC qP e1 e2 e3 e4 e5=>hQ LC qP e1 e2 (nx.trans e3) e4 (e5.trans (by cases o.dst<;>rfl)))
   .exact ak
  .rename_i hw;rw[yAI hw];refine⟨λf _=>hF.fn f,?_⟩;exact ih (i+1) y9 hs hX (hf.put (VR.undef c) _) h
    (λLC qP e1 e2 e3 e4 e5=>hQ LC qP e1 e2 e3 e4 (e5.trans (by cases o.dst<;>rfl)))
theorem aIi(hF:Open F P)(hc:Ok F P call){ops:Ju}{c:Cx}(hs:Sr c)(hX:Xw fl c){a:Act}{fr:Jq}(hf:FR c a fr){fr':Jq}{σ':Jp}
  (h:PU P call fl ops ops.toList fr c.σ=some (fr',σ'))
  (hQ:∀c' a',c'.σ=σ'->Sr c'->Nx fl c c'->FR c' a' fr'->a'.defers=a.defers->Q .normal a' c'.w):wpOpsIn F n P ops Q (List.range' 0 ops.toList.length) a c.w:=by
 unfold PU at h;split at h
 .rename_i d t len parts ty1 pos1 ed1 d2 s t' d' ty2 pos2 ed2 rest hops;split at h
  .rename_i e hu;split at h
   .rename_i he;split at h
    .rename_i hcond;obtain⟨hst,htt,hdd,hdl⟩:=hcond;subst hst;subst htt;subst hdd;split at h
     .rename_i ps hps;split at h
      .rename_i m xs hnew;obtain⟨a1,a2⟩:=PV hf hps;obtain⟨e',cells',wN,hrun,hv⟩:=aCm hs (vparts:=parts.toList.map λq=>(q.1,a.eval q.2)) hnew (by simpa using a1) (λi jv jp h3 h4=>by
        rw[yAo]at h4;cases hx:ps[i]? with
        |none=>rw[hx]at h4;simp at h4
        |some x=>
         rw[hx]at h4;simp only[yAC,yAb]at h4;subst h4;exact⟨(a2 i jv x h3 hx).1,(a2 i jv x h3 hx).2.strip⟩)
       obtain rfl:e=e':=by rw[hu]at wN;simpa using wN
       have hgr:=aIP c.w e cells';obtain⟨fz,hfz⟩:=aIQ c.w e cells';have hvr:=hv _ fz hgr hfz;have hmk:=run_mark (P:=P) c.w cells' len len hu he;have nx:Nx fl c (c.at ((c.w.alloc (.cells cells' e)).freeze ⟨c.w.heap.size,cells'.size,none⟩ 1)):=Nx.grow hs hgr;have hs':=Sr.grow hs hgr;obtain⟨v,hvd⟩:∃v:Value,v=.slice (some ⟨c.w.heap.size,0,none⟩) len len:=⟨_,rfl⟩;rw[<-hvd]at hrun hvr hmk;have nO:=((hf.mono nx).put hvr (some d')).put hvr d2;have h0:ops[0]?=some ⟨some d',.buildSlice t' len parts,ty1,pos1,ed1,none⟩:=by rw[<-yCH,hops];rfl
       have h1:ops[1]?=some ⟨d2,.convert t' t' (.tmp d'),ty2,pos2,ed2,none⟩:=by rw[<-yCH,hops];rfl
       have hlen:ops.toList.length=rest.length+2:=by rw[hops];rfl
       rw[hlen,yDv,yDv];simp only[wpOpsIn,h0,h1,yAp];rw[yAJ (show Region.wanted _ _=true from rfl)];refine⟨λf _=>hF.fn f,?_⟩;rw[Oper.semAt_eq _ _ _ (by intro d e;cases e)];have earr:(Array.map (λx=>match x with|(i,x)=>(i,a.eval x)) parts)=(parts.toList.map λq=>(q.1,a.eval q.2)).toArray:=Ep;have nU:(execOp a.eval ⟨some d',.buildSlice t' len parts,ty1,pos1,ed1,none⟩).run P c.w=.ok (.value v) (c.w.alloc (.cells cells' e)):=by
        simp only[execOp,yBb];rw[earr,hrun];simp
       rw[nU];simp only[Oper.uponIn,Region.wanted,yAK];refine⟨λf _=>hF.fn f,?_⟩;rw[Oper.semAt_eq _ _ _ (by intro d e;cases e)];have hdt:d'<a.tmps.size:=by
        have h9:a.tmps.toList.length=_:=hf.1.1;rw[yBc]at h9;rw[h9];exact hdl
       have hev:(a.put (some d') v).eval (.tmp d')=v:=by simp[Act.eval,Act.put,hdt]
       have zF:(execOp (a.put (some d') v).eval ⟨d2,.convert t' t' (.tmp d'),ty2,pos2,ed2,none⟩).run P (c.w.alloc (.cells cells' e))=.ok (.value v) ((c.w.alloc (.cells cells' e)).freeze ⟨c.w.heap.size,cells'.size,none⟩ 1):=by
        simp only[execOp,yBb];rw[hev,hmk];simp
       rw[zF];exact aBS hF hc rest 2 (by rw[hops];rfl) hs' (hX.next hs nx) nO h (λLC qP e1 e2 e3 e4 e5=>hQ LC qP e1 e2 (nx.trans e3) e4 (e5.trans (by cases d2<;>rfl)))
      .cases h
     .cases h
    .cases h
   .cases h
  .cases h
 .cases h
end
end
section
open Go.RowKit
section
variable{P:Program}{fr fr':Jq}
theorem DG:∀(xs:List Operand),(∀x∈xs,bD fr x=bD fr' x)->lM fr xs=lM fr' xs
 | [],_=>rfl
 |x::xs,h=>by
  unfold lM;rw[h x Ck,DG xs λy hy=>h y Ho]
theorem U6:∀(xs:List (Nat×Operand)),(∀x∈xs.map (·.2),bD fr x=bD fr' x)->rI fr xs=rI fr' xs
 | [],_=>rfl
 |(i,x)::xs,h=>by
  unfold rI;rw[h x Ck,U6 xs λy hy=>h y (by simp only[yAW,yBn];exact .inr hy)]
theorem aB7(op:Op)(h:∀x∈op.operands,bD fr x=bD fr' x):eP P fr op=eP P fr' op:=by
 cases op<;>simp only[Op.operands]at h<;>simp only[eP]
 case move x=>exact h x Ck
 case assign x=>exact h x Ck
 case pick a b c=>rw[h a Ck,h b Ck,h c Ck]
 case binOp _ _ a b _=>rw[h a Ck,h b Ck]
 case unOp _ _ a=>rw[h a Ck]
 case convert _ _ a=>rw[h a Ck]
 case makeFunc fn first captured=>
  cases fn<;>simp only
  rw[DG captured.toList λx hx=>h x (by simp only[Array.mem_append];exact .inr Fc),DG first.toList λx hx=>h x (by simp only[Array.mem_append];exact .inl Fc)]
 case slice _ x lo hi mx=>
  have e:bD fr x=bD fr' x:=h x Ck;have e1:lo.map (bD fr)=lo.map (bD fr'):=by cases lo with|none=>rfl|some y=>simp only[yAC];rw[h y Ck]
  have e2:hi.map (bD fr)=hi.map (bD fr'):=by cases hi with|none=>rfl|some y=>simp only[yAC];rw[h y Ck]
  have e3:mx.map (bD fr)=mx.map (bD fr'):=by cases mx with|none=>rfl|some y=>simp only[yAC];rw[h y Ck]
  rw[e,e1,e2,e3]
 case fieldAddr _ a _=>rw[h a Ck]
 case field _ a _=>rw[h a Ck]
 case indexAddr _ a b=>rw[h a Ck,h b Ck]
 case index _ a b=>rw[h a Ck,h b Ck]
 case extract a _=>rw[h a Ck]
 case nilCheck a=>rw[h a Ck]
 case build _ ps=>rw[U6 ps.toList λx hx=>h x Fc]
 case call c=>
  obtain⟨callee,args,ts⟩:=c;cases callee<;>simp only
  rw[DG args.toList λx hx=>h x Es]
theorem PN{fl:Nat}{σ:Jp}(hl:fr.length=fr'.length)(op:Op)(h:∀x∈op.operands,bD fr x=bD fr' x):dE P fl fr σ op=dE P fl fr' σ op:=by
 cases op<;>simp only[Op.operands]at h<;>simp only[dE]
 case load _ a=>rw[h a Ck]
 case store _ a b=>rw[h a Ck,h b Ck]
 case box _ a=>rw[h a Ck]
 case convert _ _ a=>rw[h a Ck]
 case makeSlice _ a b=>rw[h a Ck,h b Ck]
 case lookup _ a b _=>rw[h a Ck,h b Ck]
 case mapUpdate _ a b d=>rw[h a Ck,h b Ck,h d Ck]
 case makeMap _ r=>cases r<;>rfl
 case buildSlice _ _ ps=>rw[U6 ps.toList λx hx=>h x Fc]
 case call c=>
  obtain⟨callee,args,ts⟩:=c;cases callee<;>(try simp only)
  rename_i b;cases b<;>(try simp only)
  case append=>rw[DG args.toList λx hx=>h x Es,hl]
  case copy=>rw[DG args.toList λx hx=>h x Es]
  case clear=>rw[DG args.toList λx hx=>h x Es]
theorem aIJ(op:Op)(h:∀x∈op.operands,bD fr x=bD fr' x):iU fr op=iU fr' op:=by
 cases op<;>simp only[Op.operands]at h<;>simp only[iU]
 case call c=>
  obtain⟨callee,args,ts⟩:=c;cases callee<;>simp only
  rename_i g;rw[DG args.toList λx hx=>h x (by simp[Call.operands];exact .inr (yCg.1 hx)),h g (by simp[Call.operands])]
theorem aB8{call:cY}{fl:Nat}{σ:Jp}(hl:fr.length=fr'.length)(op:Op)(h:∀x∈op.operands,bD fr x=bD fr' x):cZ P call fl fr σ op=cZ P call fl fr' σ op:=by
 unfold cZ pop;rw[aIJ op h,aB7 op h,PN hl op h]
end
section
variable{c:Cx}{fl:Nat}
def Cx.oX(c:Cx)(w:World)(id:Nat)(v:Value):Cx:=
 { w:=w,ρ:=λi=>if i=id then v else c.ρ i,σ:=c.σ,D:=λi=>c.D i\/i=id,X:=c.X }
theorem oG{w:World}{v:Value}{id i:Nat}(h:¬c.D id)(hd:c.D i):(c.oX w id v).ρ i=c.ρ i:=by
 have:i≠id:=by rintro rfl;exact h hd
 simp[Cx.oX,this]
theorem DF{w:World}{v:Value}{id:Nat}:(c.oX w id v).ρ id=v:=by simp[Cx.oX]
theorem Nv.oX{w':World}{v:Value}{id:Nat}{p:PD}(hn:¬c.D id)(ho:c.σ[id]?=some (.box p))(h:c.w.grownBy w' none)(hv:∀b,bE v=some b->c.w.heap.size<=b):Nv c (c.oX w' id v) where
 cell:=λa u ha hu=>by
  have hlt:=BJ hu;refine⟨⟨ha.1,λi o' hd ho'=>?_⟩,by show w'.cell? a=some u;rw[yCI (h.block a.block hlt Ck)];exact hu⟩;rcases hd with hd|rfl
  .rw[oG hn hd];exact ha.2 i o' hd ho'
  .rw[DF];have:o'=.box p:=by
    have:c.σ[i]?=some o':=ho';rw[ho]at this;simpa using this.symm
   subst this;intro b hb e;have:=hv b hb;omega
 bJ:=λ_ h=>.inl h
 tQ:=λi p hd hp=>⟨oG hn hd,p,hp⟩
 oF:=λi hd hk=>⟨oG hn hd,hk⟩
 u6:=λi e s n hd hk=>⟨n,hk,yAk _,λ_=>oG hn hd⟩
 vA:=λi e s v cs hd hk=>⟨v,cs,hk,yAk _,λ_=>oG hn hd⟩
theorem Sr.oX{w':World}{id b:Nat}{p:PD}{cs:Jt}{T:TypeId}(hs:Sr c)(hn:¬c.D id)(ho:c.σ[id]?=some (.box p))(h:c.w.grownBy w' none)(hb:c.w.heap.size<=b)
  (hw:w'.heap[b]?=some (.cells cs T (0,0))) (hv:aY c cs.toList p.cells) (h1:(∀v∈cs.toList,v.oneCell'=true)/\∀t ds,p=.typed t ds->T=t):Sr (c.oX w' id (.pointer (some ⟨b,0,none⟩))):=by
 have nv:Nv c (c.oX w' id (.pointer (some ⟨b,0,none⟩))):=Nv.oX hn ho h (λb' hb'=>by simp[bE]at hb';omega);have hgh:Gh (c.oX w' id (.pointer (some ⟨b,0,none⟩))):=λg hh=>by
  obtain⟨⟨cs',T',fz,e1,e2⟩,e3⟩:=hs.kG.2 g hh;refine⟨⟨cs',T',fz,by show w'.heap[g]?=_;rw[h.block g (iB e1) Ck];exact e1,e2⟩,λi hd hb'=>?_⟩;rcases hd with hd|rfl
  .rw[oG hn hd]at hb';exact e3 i hd hb'
  .rw[DF]at hb';simp[bE]at hb';have:=iB e1;omega
 refine⟨?_,?_,?_,?_,?_,?_,?_,?_,?_,?_,hs.kG.1.oY nv,hgh⟩
 .intro i q hd hp;rcases hd with hd|rfl
  .obtain⟨b',cs',T',e1,e2,e3,e4⟩:=hs.box i q hd hp;exact⟨b',cs',T',(oG hn hd).trans e1,by show w'.heap[b']?=_;rw[h.block b' (iB e2) Ck];exact e2,e3.oY nv,e4⟩
  .have:q=p:=by
    have h':c.σ[i]?=some (.box q):=hp;rw[ho]at h';simpa using h'.symm
   subst this;exact⟨b,cs,T,DF,hw,hv.oY nv,h1⟩
 .intro i e size n hd hp;rcases hd with hd|rfl
  .obtain⟨xs,hx⟩:=hs.own i e size n hd hp;rw[oG hn hd];exact⟨xs,DH hx (λg hg=>h.block g (hs.lt i g hd hg) Ck)⟩
  .have h':c.σ[i]?=some (.own e size n):=hp;rw[ho]at h';simp at h'
 .intro i e size ver ds hd hp;rcases hd with hd|rfl
  .obtain⟨b',C,cur,e1,e2,e3,e4,e5,e6,e7,e8⟩:=hs.row i e size ver ds hd hp;exact⟨b',C,cur,(oG hn hd).trans e1,by show w'.heap[b']?=_;rw[h.block b' (iB e2) Ck];exact e2,e3,e4,e5,e6,e7.oY nv,e8⟩
  .have h':c.σ[i]?=some (.row e size ver ds):=hp;rw[ho]at h';simp at h'
 .intro i es hd hp;rcases hd with hd|rfl
  .obtain⟨b',ents,clock,e1,e2,e3,e4⟩:=hs.map i es hd hp;exact⟨b',ents,clock,(oG hn hd).trans e1,by show w'.heap[b']?=_;rw[h.block b' (iB e2) Ck];exact e2,e3.oY nv,e4.oY nv⟩
  .have h':c.σ[i]?=some (.map es):=hp;rw[ho]at h';simp at h'
 .intro i hd hm;rcases hd with hd|rfl
  .obtain⟨b',e1,e2⟩:=hs.mark i hd hm;exact⟨b',(oG hn hd).trans e1,by show w'.heap[b']?=_;rw[h.block b' (iB e2) Ck];exact e2⟩
  .have h':c.σ[i]?=some .mark:=hm;rw[ho]at h';simp at h'
 .intro i st fr ps asg bd hd hm;rcases hd with hd|rfl
  .obtain⟨b',r,e1,e2,e3,e4,e5,e6,e7⟩:=hs.loop i st fr ps asg bd hd hm;exact⟨b',r,(oG hn hd).trans e1,by show w'.heap[b']?=_;rw[h.block b' (iB e2) Ck];exact e2,e3,e4,e5,e6.oY nv,e7⟩
  .have h':c.σ[i]?=some (.loop st fr ps asg bd):=hm;rw[ho]at h';simp at h'
 .intro i j b' hd hd' hne hb1 hb2;rcases hd with hd|rfl
  .rw[oG hn hd]at hb1;rcases hd' with hd' | rfl
   .rw[oG hn hd']at hb2;exact hs.inj i j b' hd hd' hne hb1 hb2
   .rw[DF]at hb2;simp[bE]at hb2;have:=hs.lt i b' hd hb1;omega
  .rw[DF]at hb1;simp[bE]at hb1;rcases hd' with hd' | rfl
   .rw[oG hn hd']at hb2;have:=hs.lt j b' hd' hb2;omega
   .exact hne rfl
 .intro i b' hd hb1;rcases hd with hd|rfl
  .rw[oG hn hd]at hb1;exact yBS (hs.lt i b' hd hb1) h.size
  .rw[DF]at hb1;simp[bE]at hb1;subst hb1;exact iB hw
 .intro i hd;rcases hd with hd|rfl
  .exact hs.bJ i hd
  .exact(yA.1 ho).1
 .exact λa ha=>hs.fresh a (yAQ h.size ha)
theorem Nx.oX{c0:Cx}{w':World}{v:Value}{id:Nat}{p:PD}(n0:Nx fl c0 c)(hn:¬c.D id)(ho:c.σ[id]?=some (.box p))(h:c.w.grownBy w' none)(hv:∀b,bE v=some b->c.w.heap.size<=b)
  (hid:c0.σ.length<=id):Nx fl c0 (c.oX w' id v) where
 X:=n0.X
 os:=h.os.trans n0.os
 tape:=h.tape.trans n0.tape
 output:=h.output.trans n0.output
 size:=yAQ n0.size h.size
 len:=n0.len
 cell:=λa u ha hu=>let ⟨q1,q2⟩:=n0.cell a u ha hu;(Nv.oX hn ho h hv).cell a u q1 q2
 bJ:=λi hd=>.inl (n0.bJ i hd)
 new:=λi hd=>by rcases hd with hd|rfl;exact n0.new i hd;exact .inr hid
 tQ:=λi q hd hq=>by
  obtain⟨e,q',dH⟩:=n0.tQ i q hd hq;exact⟨(oG hn (n0.bJ i hd)).trans e,q',dH⟩
 oF:=λi hd hk=>by
  obtain⟨e,hk'⟩:=n0.oF i hd hk;exact⟨(oG hn (n0.bJ i hd)).trans e,hk'⟩
 u6:=λi e s n hd hk=>by
  obtain⟨n',h1,h2,h3⟩:=n0.u6 i e s n hd hk;exact⟨n',h1,h2,λhh=>(oG hn (n0.bJ i hd)).trans (h3 hh)⟩
 vA:=λi e s v cs hd hk=>by
  obtain⟨v0,cs0,h1,h2,h3⟩:=n0.vA i e s v cs hd hk;exact⟨v0,cs0,h1,h2,λhh=>(oG hn (n0.bJ i hd)).trans (h3 hh)⟩
 back:=λi b hd hb hlt=>by
  rcases hd with hd|rfl
  .rw[oG hn hd]at hb;exact n0.back i b hd hb hlt
  .rw[DF]at hb;have:=hv b hb;have:=n0.size;omega
 frame:=λk hk hx=>(h.block k (yBS hk n0.size) Ck).trans (n0.frame k hk hx)
 ro:=n0.ro
 hole:=n0.hole
def Cx.ahead(c:Cx)(l:List aA):Cx:={ c with σ:=c.σ++l }
theorem vE{l:Jp}{id:Nat}(h:id<c.σ.length):(c.ahead l).σ[id]?=c.σ[id]?:=by simp[Cx.ahead,yAg h]
theorem Nx.ahead(hs:Sr c)(l:List aA):Nx fl c (c.ahead l) where
 X:=rfl
 os:=rfl
 tape:=rfl
 output:=rfl
 size:=yAk _
 len:=by simp[Cx.ahead]
 cell:=λa v ha hv=>⟨⟨ha.1,λid o hd ho=>ha.2 id o hd (by rw[vE (hs.bJ id hd)]at ho;exact ho)⟩,hv⟩
 bJ:=λ_ h=>h
 new:=λ_ h=>.inl h
 tQ:=λid p hd h=>⟨rfl,p,Hr⟩
 oF:=λid hd h=>⟨rfl,Hr⟩
 u6:=λid e s n hd h=>⟨n,Hr,yAk _,λ_=>rfl⟩
 vA:=λid e s v cs hd h=>⟨v,cs,by rw[vE (hs.bJ id hd)]at h;exact h,yAk _,λ_=>rfl⟩
 back:=λ_ _ h h' _=>⟨h,h'⟩
 frame:=λ_ _ _=>rfl
 ro:=λid _ h=>vE h
 hole:=λid h _=>vE h
theorem Sr.ahead(hs:Sr c)(l:List aA):Sr (c.ahead l) where
 box:=λid p hd hp=>by
  rw[vE (hs.bJ id hd)]at hp;obtain⟨b,cs,T,e1,e2,e3,e4⟩:=hs.box id p hd hp;exact⟨b,cs,T,e1,e2,e3.mono (Nx.ahead (fl:=0) hs l),e4⟩
 own:=λid e size n hd ho=>by rw[vE (hs.bJ id hd)]at ho;exact hs.own id e size n hd ho
 row:=λid e size ver ds hd ho=>by
  rw[vE (hs.bJ id hd)]at ho;obtain⟨b,C,cur,e1,e2,e3,e4,e5,e6,e7,e8⟩:=hs.row id e size ver ds hd ho;exact⟨b,C,cur,e1,e2,e3,e4,e5,e6,e7.mono (Nx.ahead (fl:=0) hs l),e8⟩
 map:=λid es hd ho=>by
  rw[vE (hs.bJ id hd)]at ho;obtain⟨b,ents,clock,e1,e2,e3,e4⟩:=hs.map id es hd ho;exact⟨b,ents,clock,e1,e2,e3.mono (Nx.ahead (fl:=0) hs l),e4.mono (Nx.ahead (fl:=0) hs l)⟩
 mark:=λid hd hm=>by rw[vE (hs.bJ id hd)]at hm;exact hs.mark id hd hm
 loop:=λid st fr ps asg bd hd hl=>by
  rw[vE (hs.bJ id hd)]at hl;obtain⟨b,r,e1,e2,e3,e4,e5,e6,e7⟩:=hs.loop id st fr ps asg bd hd hl;exact⟨b,r,e1,e2,e3,e4,e5,e6.mono (Nx.ahead (fl:=0) hs l),e7⟩
 inj:=hs.inj
 lt:=hs.lt
 bJ:=λid hd=>by have:=hs.bJ id hd;simp[Cx.ahead];omega
 fresh:=hs.fresh
 kG:=hs.kG.mono (Nx.ahead (fl:=0) hs l)
end
end
section
open Go.RowKit
theorem aII{acc:List Nat}{o:Oper}{k:Nat}(h:(y5 acc o).testBit k=true) :
  ∃e∈o.after,Region.binds .any e=true/\(e.on=k\/(acc.getD e.on 0).testBit k=true):=by
 have key:∀(l:List Edge) (s:Nat),(l.foldl (λs e=>if Region.binds .any e then s ||| 2^e.on ||| acc.getD e.on 0 else s) s).testBit k=true ->
   s.testBit k=true\/∃e∈l,Region.binds .any e=true/\(e.on=k\/(acc.getD e.on 0).testBit k=true):=by
  intro l
  induction l with
  |nil=>intro s h;exact .inl h
  |cons e l ih=>
   intro s h;simp only[yDs]at h;rcases ih _ h with h1 | ⟨e',h2,h3⟩
   .split at h1
    .rename_i hb;simp only[Nat.testBit_or,Nat.testBit_two_pow,yBu,yCb]at h1;rcases h1 with(h1|h1)|h1
     .exact .inl h1
     .exact .inr ⟨e,Ck,hb,.inl h1⟩
     .exact .inr ⟨e,Ck,hb,.inr h1⟩
    .exact .inl h1
   .exact .inr ⟨e',by simp[h2],h3⟩
 rcases key _ _ h with h1 | ⟨e,h2,h3⟩
 .simp at h1
 .exact⟨e,yCg.1 h2,h3⟩
theorem U3:∀(l:List Oper) (acc:List Nat),(cP l acc).take acc.length=acc
 | [],acc=>by simp[cP]
 |o::r,acc=>by
  have:=U3 r (acc++[y5 acc o]);simp only[cP];have h2:acc.length<=(acc++[y5 acc o]).length:=Ck;have h3:=yAL (List.take acc.length) this;rw[yCd,yBL h2]at h3;rw[h3];simp
theorem aCg:∀(l:List Oper) (acc:List Nat) (i:Nat),(cP l acc)[acc.length+i]?=(l[i]?).map λo=>y5 ((cP l acc).take (acc.length+i)) o
 | [],acc,i=>by simp[cP]
 |o::r,acc,0=>by
  have h1:=U3 (o::r) acc;have h2:=U3 r (acc++[y5 acc o]);simp only[yBm,h1,yBj,yAC];have h3:(cP (o::r) acc)[acc.length]?=((cP r (acc++[y5 acc o])).take (acc++[y5 acc o]).length)[acc.length]?:=by
   rw[yAv,yAJ Ck];rfl
  rw[h3,h2];simp
 |o::r,acc,i+1=>by
  have:=aCg r (acc++[y5 acc o]) i;simp only[yAa,yDa]at this;simp only[cP,yBz];rw[show acc.length+(i+1)=acc.length+1+i by omega];exact this
section
variable{ops:Ju}
theorem U4{i k:Nat}(h:((cP ops.toList []).getD i 0).testBit k=true) :
  ∃o,ops[i]?=some o/\∃e∈o.after,Region.binds .any e=true/\(e.on=k\/(((cP ops.toList []).take i).getD e.on 0).testBit k=true):=by
 have h1:=aCg ops.toList [] i;simp only[yAO,yAp,yCH]at h1;rw[yAA,h1]at h;cases ho:ops[i]? with
 |none=>rw[ho]at h;simp at h
 |some o=>
  rw[ho]at h;simp only[yAC,yDq]at h;exact⟨o,rfl,aII h⟩
theorem U5{l:List Nat}{i j:Nat}(h:j<i):(l.take i).getD j 0=l.getD j 0:=by
 simp[yAA,h]
structure sG (ops:Array Oper) (ms:List Nat):Prop where
 aVw:Region.noSelect ops=true
 shape:∀(i:Nat) (o:Oper),ops[i]?=some o->(fB o.op||eJ o.op||dA o.op||mS o.op||eS o.op)=true
 once:∀(i:Nat) (o:Oper) (j:Nat) (oj:Oper) (d:Tmp),ops[i]?=some o->ops[j]?=some oj->j≠i->oj.dst=some d->o.dst≠some d
 looks:∀(i:Nat) (o:Oper) (j:Nat) (oj:Oper) (d:Tmp),ops[i]?=some o->ops[j]?=some oj->j≠i->oj.dst=some d->d∈o.looksAt ops ->
  (j<i->∃e∈o.after,Region.binds .any e=true/\e.on=j)/\(i<j->∃e∈oj.after,Region.binds .any e=true/\e.on=i)
 down:∀(i:Nat) (o:Oper),ops[i]?=some o->∀e∈o.after,Region.binds .any e=true->e.on<i
 ord:∀(i:Nat) (o:Oper) (j:Nat) (oj:Oper),ops[i]?=some o->ops[j]?=some oj->eS o.op=true->eS oj.op=true->j<i->(ms.getD i 0).testBit j=true
theorem PQ{f:Op->Bool}{i:Nat}{o:Oper}(h:ops[i]?=some o):eR f ops.toList i=f o.op:=by
 simp[eR,h]
theorem qS{i:Nat}{o:Oper}(h:ops[i]?=some o):i<ops.size:=(yDG.1 h).1
theorem BE{ms:List Nat}(h:wI ops ms=true):sG ops ms:=by
 simp only[wI,yAr,yAn,yAS]at h;obtain⟨h0,h⟩:=h;have at':∀(i:Nat) (o:Oper),ops[i]?=some o->_:=λi o ho=>by
  have:=h i (qS ho);simp only[ho,yAr]at this;exact this
 have ssa:∀(i:Nat) (o:Oper) (j:Nat) (oj:Oper) (d:Tmp),ops[i]?=some o->ops[j]?=some oj->j≠i->oj.dst=some d->_:=λi o j oj d ho hoj hne hd=>by
  have:=(at' i o ho).1.1.2;simp only[aCh,yAn,yAS]at this;have:=this j (qS hoj);simp only[hoj,hd,yBu,yCc,hne,false_or,yAr]at this;exact this
 refine⟨h0,λi o ho=>(at' i o ho).1.1.1,?_,?_,?_,?_⟩
 .intro i o j oj d ho hoj hne hd;simpa using(ssa i o j oj d ho hoj hne hd).1
 .intro i o j oj d ho hoj hne hd hl;have:=(ssa i o j oj d ho hoj hne hd).2;simp only[yBv,List.contains_eq_mem,yDV,hl,yBM,false_or]at this;refine⟨λhlt=>?_,λhlt=>?_⟩
  .rw[yAJ hlt]at this;exact sj
  .rw[yAI Cj]at this;exact sj
 .intro i o ho e he hb;have:=Array.all_eq_true'.1 (at' i o ho).1.2 e he;simpa [hb]using this
 .intro i o j oj ho hoj hw hwj hlt;have:=(at' i o ho).2;simp only[hw,yBQ,yCa,yAn,yAS]at this;have:=this j hlt;rw[PQ hoj,hwj]at this;exact cw
def Lt(listed:Array Bool)(i:Nat):Prop:=listed[i]?=some true
def PR(ops:Array Oper)(S:Nat->Prop):Prop:=∀(i:Nat) (o:Oper),S i->ops[i]?=some o->∀e∈o.after,Region.binds .any e=true->S e.on
theorem aCa(hr:∀(i:Nat) (o:Oper),ops[i]?=some o->∀e∈o.after,Region.binds .any e=true->e.on<i):∀(i k:Nat),((cP ops.toList []).getD i 0).testBit k=true->k<i:=by
 intro i
 induction i using Nat.strongRecOn with
 |_ i ih=>
  intro k h;obtain⟨o,ho,e,he,hb,h⟩:=U4 h;have hlt:=hr i o ho e he hb;rcases h with rfl|h
  .exact hlt
  .rw[U5 hlt]at h;exact Nat.lt_trans (ih _ hlt _ h) hlt
theorem aCb(hr:∀(i:Nat) (o:Oper),ops[i]?=some o->∀e∈o.after,Region.binds .any e=true->e.on<i){S:Nat->Prop}(hS:PR ops S):∀(i k:Nat),S i->((cP ops.toList []).getD i 0).testBit k=true->S k:=by
 intro i
 induction i using Nat.strongRecOn with
 |_ i ih=>
  intro k hi h;obtain⟨o,ho,e,he,hb,h⟩:=U4 h;have hlt:=hr i o ho e he hb;have hs:=hS i o hi ho e he hb;rcases h with rfl|h
  .exact hs
  .rw[U5 hlt]at h;exact ih _ hlt _ hs h
theorem aB4(hr:∀(i:Nat) (o:Oper),ops[i]?=some o->∀e∈o.after,Region.binds .any e=true->e.on<i){S:Nat->Prop}(hS:PR ops S){i k:Nat}{o:Oper}(ho:ops[i]?=some o)
  (hi:∀e∈o.after,Region.binds .any e=true->S e.on) (h:((cP ops.toList []).getD i 0).testBit k=true):S k:=by
 obtain⟨o',ho',e,he,hb,h⟩:=U4 h;rw[ho]at ho';simp only[yAb]at ho';subst ho';have hlt:=hr i o ho e he hb;rcases h with rfl|h
 .exact hi e he hb
 .rw[U5 hlt]at h;exact aCb hr hS _ _ (hi e he hb) h
structure qT (ops:Array Oper) (ps:Nat->PD) (kW:List PD) (S:Nat->Prop) (fr:List PD):Prop where
 len:fr.length=kW.length
 slot:∀x,(∃(j:Nat) (o:Oper),ops[j]?=some o/\S j/\o.dst=some x/\(x<kW.length->fr[x]?=some (ps j)))\/((∀(j:Nat) (o:Oper),ops[j]?=some o->S j->o.dst≠some x)/\fr[x]?=kW[x]?)
variable{ps:Nat->PD}{kW fr fr':Jq}{S T:Nat->Prop}
theorem qT.start(h:∀j,¬S j):qT ops ps kW S kW:=⟨rfl,λ_=>.inr ⟨λj _ _ hj=>absurd hj (h j),rfl⟩⟩
theorem qT.congr(h:qT ops ps kW S fr)(hST:∀j,S j↔T j):qT ops ps kW T fr:=
 ⟨h.len,λx=>(h.slot x).imp (λ⟨j,o,a,b,r⟩=>⟨j,o,a,(hST j).1 b,r⟩) (λ⟨a,b⟩=>⟨λj o ho hj=>a j o ho ((hST j).2 hj),b⟩)⟩
theorem qT.put{ms:List Nat}(hr:sG ops ms)(h:qT ops ps kW S fr){i:Nat}{o:Oper}(ho:ops[i]?=some o):qT ops ps kW (λj=>S j\/j=i) (bC fr o.dst (ps i)):=by
 cases hd:o.dst with
 |none=>
  refine⟨h.len,λx=>(h.slot x).imp (λ⟨j,o',a,b,r⟩=>⟨j,o',a,.inl b,r⟩) (λ⟨a,b⟩=>⟨λj o' ho' hj=>?_,b⟩)⟩;rcases hj with hj|rfl
  .exact a j o' ho' hj
  .rw[ho]at ho';simp only[yAb]at ho';subst ho';rw[hd];simp
 |some d=>
  refine⟨by simpa [bC]using h.len,λx=>?_⟩
  by_cases e:x=d
  .subst e;exact .inl ⟨i,o,ho,.inr rfl,hd,λhx=>by simp[bC,yCX,h.len,hx]⟩
  .have hne:(bC fr (some d) (ps i))[x]?=fr[x]?:=by simp[bC,yAd (yAU e)]
   rw[hne];refine(h.slot x).imp (λ⟨j,o',a,b,r⟩=>⟨j,o',a,.inl b,r⟩) (λ⟨a,b⟩=>⟨λj o' ho' hj=>?_,b⟩);rcases hj with hj|rfl
   .exact a j o' ho' hj
   .rw[ho]at ho';simp only[yAb]at ho';subst ho';rw[hd];simpa using yAU e
theorem qT.agree{ms:List Nat}(hr:sG ops ms)(h:qT ops ps kW S fr)(h':qT ops ps kW T fr'){x:Nat}(hx:∀(j:Nat) (o:Oper),ops[j]?=some o->o.dst=some x->(S j↔T j)):fr[x]?=fr'[x]?:=by
 rcases h.slot x with⟨j,o,ho,hj,hd,hv⟩ | ⟨hno,hv⟩
 .rcases h'.slot x with⟨j',o',ho',hj',hd',sH⟩ | ⟨aCi,sH⟩
  .have:j'=j:=by
    rcases Nat.decEq j' j with hne|heq
    .exact absurd hd (hr.once j o j' o' x ho ho' hne hd')
    .exact heq
   subst this;rcases yCj x kW.length with hlt|hge
   .rw[hv hlt,sH hlt]
   .rw[yBF (by rw[h.len];exact hge),yBF (by rw[h'.len];exact hge)]
  .exact absurd hd (aCi j o ho ((hx j o ho hd).1 hj))
 .rcases h'.slot x with⟨j',o',ho',hj',hd',sH⟩ | ⟨aCi,sH⟩
  .exact absurd hd' (hno j' o' ho' ((hx j' o' ho' hd').2 hj'))
  .rw[hv,sH]
theorem qT.same{ms:List Nat}(hr:sG ops ms)(h:qT ops ps kW S fr)(h':qT ops ps kW T fr')(hx:∀(j:Nat) (o:Oper),ops[j]?=some o->(S j↔T j)):fr=fr':=
 yCs λ_=>h.agree hr h' λj o ho _=>hx j o ho
def iO(ops:List Oper)(i:Nat):Nat:=((ops.take i).filter λo=>dA o.op).length
theorem PT{l:List Oper}{i:Nat}{o:Oper}(h:l[i]?=some o):iO l (i+1)=iO l i+if dA o.op then 1 else 0:=by
 unfold iO;rw[List.take_add_one,h];simp only[Option.toList_some,List.filter_append,yAa]
 congr 1
 by_cases hs:dA o.op=true<;>simp[hs]
theorem aCj{l:List Oper}{i j:Nat}(h:i<=j):iO l i<=iO l j:=by
 unfold iO;have:l.take i=(l.take j).take i:=by rw[yCd,yBL h]
 rw[this];exact((List.take_sublist i (l.take j)).filter _).length_le
theorem aIy{l:List Oper}{i j:Nat}{o oj:Oper}(hi:l[i]?=some o)(hj:l[j]?=some oj)(hs:dA o.op=true)(hsj:dA oj.op=true)(hne:i≠j):iO l i≠iO l j:=by
 rcases Nat.lt_or_gt_of_ne hne with h|h
 .have:=aCj (l:=l) (Nat.succ_le_of_lt h);rw[Nat.succ_eq_add_one,PT hi,yAJ hs]at this;omega
 .have:=aCj (l:=l) (Nat.succ_le_of_lt h);rw[Nat.succ_eq_add_one,PT hj,yAJ hsj]at this;omega
theorem U0{P:Program}:∀ {l:List Oper} {hs:Jp},mT P l=some hs->∀(i:Nat) (o:Oper) (t:TypeId),l[i]?=some o->o.op=.alloc t ->
  ∃z,fP P t=some z/\z.cells.all PD.plain=true/\hs[iO l i]?=some (.box (boxed t z))
 | [],hs,h,i,o,t,hi,_=>by simp at hi
 |o'::r,hs,h,0,o,t,hi,ht=>by
  simp only[yBj,yAb]at hi;subst hi;unfold mT at h;rw[ht]at h;simp only at h;split at h
  .rename_i p l hp hl;split at h
   .rename_i hpl;simp only[yAb]at h;subst h;exact⟨p,hp,hpl,by simp[iO]⟩
   .exact ak
  .exact ak
 |o'::r,hs,h,i+1,o,t,hi,ht=>by
  simp only[yBz]at hi;unfold mT at h;split at h
  .rename_i t' ht';split at h
   .rename_i p l hp hl;split at h
    .rename_i hpl;simp only[yAb]at h;subst h;obtain⟨z,h1,h2,h3⟩:=U0 hl i o t hi ht;refine⟨z,h1,h2,?_⟩;have:iO (o'::r) (i+1)=iO r i+1:=by simp[iO,ht',dA]
     rw[this,yBz];exact h3
    .exact ak
   .exact ak
  .rename_i hne;obtain⟨z,h1,h2,h3⟩:=U0 h i o t hi ht;refine⟨z,h1,h2,?_⟩;have hna:dA o'.op=false:=by
    cases ho:o'.op<;>first|rfl|exact absurd ho (hne _)
   have:iO (o'::r) (i+1)=iO r i:=by simp[iO,hna]
   rw[this];exact h3
structure LB (P:Program) (call:cY) (fl:Nat) (ops:Array Oper) (ms:List Nat) (k0:Nat) (frs:Nat->List PD) (σs:Nat->List aA) (ps:Nat->PD) (ft:Nat->Option Nat) (z:Nat->Bool) (i:Nat) (o:Oper):Prop where
 put:frs (i+1)=bC (frs i) o.dst (ps i)
 run:Region.wanted o (cH ops (frs i))=true->iA P call fl (z i) (k0+iO ops.toList i) (frs i) (σs i) o.op=some (ps i,σs (i+1))/\ft i=kX (frs i) o.op
 skip:Region.wanted o (cH ops (frs i))=false->ps i=.aH []/\σs (i+1)=σs i
theorem aIC{P:Program}{call:cY}{fl k0:Nat}{ms:List Nat}:∀(l:List Oper) (i k:Nat) (fr:List PD) (σ:List aA) (tr:List TE) (fr':List PD) (σ':List aA),ops.toList.drop i=l->k=k0+iO ops.toList i ->
  fE P call fl ops ms i k l fr σ=some (tr,fr',σ')->∃(frs:Nat->List PD) (σs:Nat->List aA) (ps:Nat->PD) (ft:Nat->Option Nat),frs i=fr/\σs i=σ/\frs (i+l.length)=fr'/\σs (i+l.length)=σ' /\
   (∀(j:Nat) (o:Oper),i<=j->ops[j]?=some o->LB P call fl ops ms k0 frs σs ps ft (λi=>kT ops.toList ms i) j o)/\(∀j,i<=j->j<i+l.length->ft j=(tr[j-i]?).bind TE.jV):=by
 intro l
 induction l with
 |nil=>
  intro i k fr σ tr fr' σ' hdrop hk h;simp only[fE,yAb,yAc]at h;obtain⟨rfl,rfl,rfl⟩:=h;refine⟨λ_=>fr,λ_=>σ,λ_=>default,λ_=>none,rfl,rfl,rfl,rfl,λj o hj ho=>?_,λj h1 h2=>absurd h2 Cu⟩;exact ug
 |cons o rest ih=>
  intro i k fr σ tr fr' σ' hdrop hk h;have ho:ops[i]?=some o:=by
   exact Ar
  have y9:ops.toList.drop (i+1)=rest:=by rw[<-yBD,hdrop];rfl
  have hk':(if dA o.op then k+1 else k)=k0+iO ops.toList (i+1):=by
   rw[PT Fe,hk];split<;>omega
  simp only[fE]at h;have lift:∀(p:PD) (σ1:List aA) (jV:Option Nat) (qU:List TE),fE P call fl ops ms (i+1) (if dA o.op then k+1 else k) rest (bC fr o.dst p) σ1=some (qU,fr',σ') ->
    tr=⟨fr,σ,p,jV⟩::qU->(Region.wanted o (cH ops fr)=true->iA P call fl (kT ops.toList ms i) (k0+iO ops.toList i) fr σ o.op=some (p,σ1)/\jV=kX fr o.op) ->
    (Region.wanted o (cH ops fr)=false->p=.aH []/\σ1=σ)->∃(frs:Nat->List PD) (σs:Nat->List aA) (ps:Nat->PD) (ft:Nat->Option Nat),frs i=fr/\σs i=σ/\frs (i+(o::rest).length)=fr'/\σs (i+(o::rest).length)=σ' /\
   (∀(j:Nat) (o:Oper),i<=j->ops[j]?=some o->LB P call fl ops ms k0 frs σs ps ft (λi=>kT ops.toList ms i) j o)/\(∀j,i<=j->j<i+(o::rest).length->ft j=(tr[j-i]?).bind TE.jV):=by
   intro p σ1 jV qU h1 htr hrun hskip;obtain⟨frs,σs,ps,ft,e1,e2,e3,e4,h5,h6⟩:=ih (i+1) _ _ _ _ _ _ y9 hk' h1;refine⟨λj=>if j=i then fr else frs j,λj=>if j=i then σ else σs j,λj=>if j=i then p else ps j,λj=>if j=i then jV else ft j,Ck,Ck,?_,?_,?_,?_⟩
   .exact ny
   .exact oa
   .intro j oj hj hoj
    by_cases e:j=i
    .exact gw
    .have h7:=h5 j oj Cj hoj;have hne:j+1≠i:=Cj;refine⟨?_,?_,?_⟩
     .simp only[yAI e,yAI hne];exact h7.put
     .simp only[yAI e,yAI hne];exact h7.run
     .simp only[yAI e,yAI hne];exact h7.skip
   .exact ku
  exact zy
theorem aID{P:Program}{call:cY}{fl k0:Nat}{ms:List Nat}:∀(l:List Oper) (i k:Nat) (fr:List PD) (σ:List aA) (tr:List TE) (fr':List PD) (σ':List aA),ops.toList.drop i=l->k=k0+iO ops.toList i ->
  p8 P call fl ops i k l fr σ=some (tr,fr',σ')->∃(frs:Nat->List PD) (σs:Nat->List aA) (ps:Nat->PD) (ft:Nat->Option Nat),frs i=fr/\σs i=σ/\frs (i+l.length)=fr'/\σs (i+l.length)=σ' /\
   (∀(j:Nat) (o:Oper),i<=j->ops[j]?=some o->LB P call fl ops ms k0 frs σs ps ft (λ_=>true) j o)/\(∀j,i<=j->j<i+l.length->ft j=(tr[j-i]?).bind TE.jV)/\(∀j,i<=j->σs j=TE.at tr σ' (j-i)):=by
 intro l
 induction l with
 |nil=>
  intro i k fr σ tr fr' σ' hdrop hk h;simp only[p8,yAb,yAc]at h;obtain⟨rfl,rfl,rfl⟩:=h;refine⟨λ_=>fr,λ_=>σ,λ_=>default,λ_=>none,rfl,rfl,rfl,rfl,λj o hj ho=>?_,λj h1 h2=>absurd h2 Cu,λj _=>by simp[TE.at]⟩;exact ug
 |cons o rest ih=>
  intro i k fr σ tr fr' σ' hdrop hk h;have ho:ops[i]?=some o:=by
   exact Ar
  have y9:ops.toList.drop (i+1)=rest:=by rw[<-yBD,hdrop];rfl
  have hk':(if dA o.op then k+1 else k)=k0+iO ops.toList (i+1):=by
   rw[PT Fe,hk];split<;>omega
  simp only[p8]at h;have lift:∀(p:PD) (σ1:List aA) (jV:Option Nat) (qU:List TE),p8 P call fl ops (i+1) (if dA o.op then k+1 else k) rest (bC fr o.dst p) σ1=some (qU,fr',σ') ->
    tr=⟨fr,σ,p,jV⟩::qU->(Region.wanted o (cH ops fr)=true->iA P call fl (true) (k0+iO ops.toList i) fr σ o.op=some (p,σ1)/\jV=kX fr o.op) ->
    (Region.wanted o (cH ops fr)=false->p=.aH []/\σ1=σ)->∃(frs:Nat->List PD) (σs:Nat->List aA) (ps:Nat->PD) (ft:Nat->Option Nat),frs i=fr/\σs i=σ/\frs (i+(o::rest).length)=fr'/\σs (i+(o::rest).length)=σ' /\
   (∀(j:Nat) (o:Oper),i<=j->ops[j]?=some o->LB P call fl ops ms k0 frs σs ps ft (λ_=>true) j o)/\(∀j,i<=j->j<i+(o::rest).length->ft j=(tr[j-i]?).bind TE.jV)/\(∀j,i<=j->σs j=TE.at tr σ' (j-i)):=by
   intro p σ1 jV qU h1 htr hrun hskip;obtain⟨frs,σs,ps,ft,e1,e2,e3,e4,h5,h6,h7⟩:=ih (i+1) _ _ _ _ _ _ y9 hk' h1;refine⟨λj=>if j=i then fr else frs j,λj=>if j=i then σ else σs j,λj=>if j=i then p else ps j,λj=>if j=i then jV else ft j,Ck,Ck,?_,?_,?_,?_,?_⟩
   .exact ny
   .exact oa
   .intro j oj hj hoj
    by_cases e:j=i
    .exact gw
    .have h8:=h5 j oj Cj hoj;have hne:j+1≠i:=Cj;refine⟨?_,?_,?_⟩
     .simp only[yAI e,yAI hne];exact h8.put
     .simp only[yAI e,yAI hne];exact h8.run
     .simp only[yAI e,yAI hne];exact h8.skip
   .exact ku
   .intro j hj
    by_cases e:j=i
    .subst e;simp[htr,TE.at]
    .simp only[yAI e];rw[h7 j Cj,htr,show j-i=(j-(i+1))+1 by omega];simp[TE.at]
  exact zy
end
end
section
open Go.RowKit
section
variable{P:Program}{call:cY}{fl k:Nat}{free:Bool}{fr:Jq}{σ σ':Jp}{op:Op}{p:PD}
theorem K0(h:eJ op=true\/mS op=true\/fX op=true):eP P fr op=none/\iU fr op=none/\fB op=false/\dA op=false/\dR op=false:=by
 by_cases hc:∃s d x,op=.convert s d x
 .obtain⟨s,d,x,rfl⟩:=hc;have ht:FC s d=true:=by rcases h with h|h|h<;>first|exact h|cases h
  exact⟨by simp only[eP,ht,yAK],rfl,by simp only[fB,ht,yBQ],rfl,rfl⟩
 cases op<;>simp[eJ,mS,fX]at h hc<;>simp[eP,iU,fB,dA,dR]
theorem aBP(h:fB op=true):iU fr op=none/\dA op=false/\eS op=false/\eJ op=false:=by
 by_cases hc:∃s d x,op=.convert s d x
 .obtain⟨s,d,x,rfl⟩:=hc;have ht:FC s d=false:=by simpa only[fB,yBv]using h
  exact⟨rfl,rfl,rfl,ht⟩
 cases op<;>simp[fB]at h hc<;>simp[iU,dA,eS,fX,dR,eJ]
 rename_i c;obtain⟨callee,args,ts⟩:=c;cases callee<;>simp at h ⊢
 rename_i b;cases b<;>simp at h ⊢
theorem aIF(h:dR op=true):fB op=false/\dA op=false/\eJ op=false/\fX op=false:=by
 cases op<;>simp[dR]at h<;>simp[fB,dA,eJ,fX]
 rename_i c;obtain⟨callee,args,ts⟩:=c;cases callee with
 |value f=>rfl
 |invoke r m=>simp at h
 |builtin b=>cases b<;>simp at h ⊢
theorem aIw(h:dA op=true):fB op=false/\eS op=false/\eJ op=false/\∃t,op=.alloc t:=by
 cases op<;>simp[dA]at h<;>simp[fB,eS,fX,dR,eJ]
theorem pmake_sure{t e:TypeId}{n:Nat}(hn:n≠0)(ht:U1 t=false):tM P σ t e n n=(tM P [] t e n n).map λr=>(r.1,σ):=by
 unfold tM;cases P.info? e<;>cases cM P e<;>cases fP P e<;>simp only[yDJ]
 split
 .simp only[hn,false_and,yAN,yAK,ht,yAx,yAC]
 .rfl
theorem pmem_make{t:TypeId}{a b:Operand}(h:mkSure t a b=true):∃q:Option PD,∀(fl:Nat) (fr:List PD) (σ:List aA),dE P fl fr σ (.makeSlice t a b)=q.map λp=>(p,σ):=by
 unfold mkSure at h;split at h
 .rename_i l _ k;simp only[yAr,yCb,yBv]at h;obtain⟨⟨rfl,hl⟩,ht⟩:=h;have h0:0<=l:=Cj;have hn:l.toNat≠0:=Cj;cases hu:P.underlying t with
  |none=>exact⟨none,λfl fr σ=>by simp only[dE,hu];rfl⟩
  |some d=>
   cases d with
   |slice e=>
    refine⟨(tM P [] t e l.toNat l.toNat).map (·.1),λfl fr σ=>?_⟩;have hv:∀k,gL (bD fr (.const (.int k l)))=some l.toNat:=λk=>by
     show(if 0<=l then some l.toNat else none)=_
     rw[yAJ h0]
    simp only[dE,hu,hv];rw[pmake_sure hn ht,Option.map_map];rfl
   |_=>exact⟨none,λfl fr σ=>by simp only[dE,hu];rfl⟩
 .cases h
theorem aIG(hl:eJ op=true\/mS op=true)(h:dE P fl fr σ op=some (p,σ')):σ'=σ:=by
 by_cases hc:∃s d x,op=.convert s d x
 .obtain⟨s,d,x,rfl⟩:=hc;simp only[dE]at h
  repeat' split at h
  all_goals first
   |(simp only[yAb,yAc]at h;exact h.2.symm)
   |(cases h;done)
 cases op<;>simp[eJ,mS]at hl hc
 .exact Be
 .exact Be
 .rename_i t x y;obtain⟨q,hq⟩:=pmem_make (P:=P) hl;rw[hq]at h;cases q with
  |none=>cases h
  |some q=>simp only[yAC,yAb,yAc]at h;exact h.2.symm
theorem aIH(hl:fX op=true)(h:dE P fl fr σ op=some (p,σ')):∃id o,kX fr op=some id/\σ'=σ.set id o:=by
 cases op<;>simp[fX]at hl
 rename_i t x y;simp only[dE]at h;split at h
 .rename_i a q h1 h2;split at h
  .rename_i s hs;simp only[yAb,yAc]at h;obtain⟨rfl,rfl⟩:=h;unfold rH at hs;split at hs
   .rename_i id off;split at hs
    .exact jw
    .simp at hs
   .rename_i id ver off;exact jw
   .simp at hs
  .exact ak
 .exact ak
theorem aCf(hs:(fB op||eJ op||dA op||mS op||eS op)=true)(hw:eS op=false)(h:iA P call fl free k fr σ op=some (p,σ')):σ'=σ:=by
 unfold iA at h;split at h
 .split at h
  .exact qi
  .exact ak
 .rename_i hA;split at h
  .exact qi
  .rename_i hB;have hm:dR op=false:=by simp[eS]at hw;exact hw.2
   rw[hm]at h;simp only[yAY,yAx,yAN]at h;refine aIG ?_ h;simp[hw,yCw]at hs hA hB;rw[hA,hB]at hs;simpa using hs
end
section
variable{P:Program}{call:cY}{fl k0:Nat}{ops:Ju}{ms:List Nat}{frs:Nat->Jq}{σs:Nat->Jp}{ps:Nat->PD}{ft:Nat->Option Nat}{z:Nat->Bool}
def qQ(P:Program)(call:cY)(fl:Nat)(ops:Array Oper)(ms:List Nat)(k0:Nat)(frs:Nat->List PD)(σs:Nat->List aA)(ps:Nat->PD)(ft:Nat->Option Nat)(z:Nat->Bool):Prop:=
 ∀(i:Nat) (o:Oper),ops[i]?=some o->LB P call fl ops ms k0 frs σs ps ft z i o
theorem qQ.still(hr:sG ops ms)(ht:qQ P call fl ops ms k0 frs σs ps ft z){i:Nat}{o:Oper}(ho:ops[i]?=some o)(hw:eS o.op=false):σs (i+1)=σs i:=by
 cases hwt:Region.wanted o (cH ops (frs i))with
 |true=>exact aCf (hr.shape i o ho) hw ((ht i o ho).run hwt).1
 |false=>exact((ht i o ho).skip hwt).2
theorem qQ.UX(hr:sG ops ms)(ht:qQ P call fl ops ms k0 frs σs ps ft z){i:Nat}:∀(d:Nat),i+d<=ops.size->(∀j o,i<=j->j<i+d->ops[j]?=some o->eS o.op=false)->σs (i+d)=σs i
 |0,_,_=>rfl
 |d+1,hn,h=>by
  have ih:=ht.UX hr d Cj λj o h1 h2 ho=>h j o h1 Cj ho
  have ho:ops[i+d]?=some ops[i+d]:=yCx Cj;rw[show i+(d+1)=i+d+1 by omega,ht.still hr ho (h _ _ Cj Cj ho),ih]
def K9(ops:Array Oper)(ms:List Nat)(ft:Nat->Option Nat)(z:Nat->Bool)(σs:Nat->List aA):Prop:=
 (∀(k i:Nat) (ok oi:Oper),ops[k]?=some ok->ops[i]?=some oi->fX ok.op=true->eJ oi.op=true->loose ms i k=true->∀a b,ft i=some a->ft k=some b->a≠b) /\
 ∀(k i:Nat) (ok oi:Oper) (id:Nat),ops[k]?=some ok->ops[i]?=some oi->dR ok.op=true->eJ oi.op=true->loose ms i k=true->z k=true->ft i=some id ->
  (σs k).length<=(σs (k+1)).length/\(id<(σs k).length->(σs (k+1))[id]?=(σs k)[id]?)
theorem qQ.loose(hr:sG ops ms)(ht:qQ P call fl ops ms k0 frs σs ps ft z)(hf:K9 ops ms ft z σs){i id:Nat}{oi:Oper}(hi:ops[i]?=some oi)(hl:eJ oi.op=true)(hid:ft i=some id)
  {k:Nat} {o:Oper} (ho:ops[k]?=some o) (hk:eS o.op=true->Kz.loose ms i k=true) (hlt:id<(σs k).length):(σs (k+1))[id]?=(σs k)[id]?/\(σs k).length<=(σs (k+1)).length:=by
 cases hw:eS o.op with
 |false=>rw[ht.still hr ho hw];exact⟨rfl,yAk _⟩
 |true=>
  have hloose:=hk hw;cases hwt:Region.wanted o (cH ops (frs k))with
  |false=>rw[((ht k o ho).skip hwt).2];exact⟨rfl,yAk _⟩
  |true=>
   obtain⟨hrun,hfoot⟩:=(ht k o ho).run hwt;simp only[eS,yBu]at hw;rcases hw with hst|hmv
   .obtain⟨_,_,hA,hB,hM⟩:=K0 (P:=P) (fr:=frs k) (.inr (.inr hst));unfold iA at hrun;simp only[hA,hB,hM,yAx,yAN,yAY]at hrun;obtain⟨id',o',h1,h2⟩:=aIH hst hrun;have hne:id≠id':=hf.1 k i o oi ho hi hst hl hloose id id' hid (hfoot.trans h1);rw[h2];exact⟨yAd (yAU hne),Ck⟩
   .obtain⟨hA,hB,_,_⟩:=aIF hmv;cases hfree:z k with
    |true=>
     obtain⟨q1,q2⟩:=hf.2 k i o oi id ho hi hmv hl hloose hfree hid;exact⟨q2 hlt,q1⟩
    |false=>
    rw[hfree]at hrun;unfold iA at hrun;simp only[hA,hB,hmv,yAx,yAN,yCu,yCr,yAK]at hrun;split at hrun
    .rename_i p σ1 hst;simp only[yAb,yAc]at hrun;rw[<-hrun.2];exact⟨by rw[yAg hlt],Ck⟩
    .simp at hrun
theorem qQ.UZ(hr:sG ops ms)(ht:qQ P call fl ops ms k0 frs σs ps ft z)(hf:K9 ops ms ft z σs){i id:Nat}{oi:Oper}(hi:ops[i]?=some oi)(hl:eJ oi.op=true)(hid:ft i=some id){m:Nat} :
  ∀(d:Nat),m+d<=ops.size->(∀k o,m<=k->k<m+d->ops[k]?=some o->eS o.op=true->Kz.loose ms i k=true)->id<(σs m).length->(σs (m+d))[id]?=(σs m)[id]?/\(σs m).length<=(σs (m+d)).length
 |0,_,_,_=>⟨rfl,yAk _⟩
 |d+1,hn,h,hlt=>by
  obtain⟨h1,h2⟩:=ht.UZ hr hf hi hl hid d Cj (λk o a b=>h k o a Cj) hlt;have ho:ops[m+d]?=some ops[m+d]:=yCx Cj;obtain⟨h3,h4⟩:=ht.loose hr hf hi hl hid ho (λhw=>h _ _ Cj Cj ho hw) Cj;exact⟨h3.trans h1,yAQ h2 h4⟩
theorem qQ.BI(hr:sG ops ms)(ht:qQ P call fl ops ms k0 frs σs ps ft z):∀(i:Nat),i<=ops.size->qT ops ps (frs 0) (· < i) (frs i)
 |0,_=>.start λj=>yAZ j
 |i+1,h=>by
  have ho:ops[i]?=some ops[i]:=yCx Cj;have ih:=ht.BI hr i Cj;rw[(ht i _ ho).put];exact(ih.put hr ho).congr λj=>Cj
theorem aIs(hr:sG ops ms)(ht:qQ P call fl ops ms k0 frs σs ps ft z){S:Nat->Prop}{fr:Jq}(hS:PR ops S)(hsl:qT ops ps (frs 0) S fr){i:Nat}{o:Oper}(ho:ops[i]?=some o)(hni:¬S i)
  (hready:∀e∈o.after,Region.binds .any e=true->S e.on) {x:Nat} (hx:x∈o.looksAt ops):fr[x]?=(frs i)[x]?:=by
 refine hsl.agree hr (ht.BI hr i (yBR (qS ho))) λj oj hoj hd=>?_
 rcases Nat.lt_trichotomy j i with hlt|rfl|hgt
 .obtain⟨e,he,hb,heq⟩:=(hr.looks i o j oj x ho hoj Cj hd hx).1 hlt;exact⟨λ_=>hlt,λ_=>heq▸hready e he hb⟩
 .exact⟨λh=>absurd h hni,λh=>absurd h (yCG _)⟩
 .obtain⟨e,he,hb,heq⟩:=(hr.looks i o j oj x ho hoj Cj hd hx).2 hgt;exact⟨λh=>absurd (heq▸hS j oj h hoj e he hb) hni,λh=>absurd h Cj⟩
theorem aIt{fr fr':Jq}{o:Oper}(h:∀x∈o.looksAt ops,fr[x]?=fr'[x]?):∀x∈o.op.operands,bD fr x=bD fr' x:=by
 intro x hx;cases x with
 |tmp t=>
  have:t∈o.looksAt ops:=List.mem_append_left _ (yDu.2 ⟨.tmp t,Fc,rfl⟩);simp only[bD,yAA,h t this]
 |_=>rfl
theorem aIu{fr fr':Jq}{o:Oper}(h:∀x∈o.looksAt ops,fr[x]?=fr'[x]?):Region.wanted o (cH ops fr)=Region.wanted o (cH ops fr'):=by
 unfold Region.wanted;cases hg:o.guard with
 |none=>rfl
 |some gb=>
  obtain⟨g,b⟩:=gb;simp only;have:cH ops fr g=cH ops fr' g:=by
   unfold cH;cases hd:(ops[g]?).bind (·.dst)with
   |none=>rfl
   |some d=>
    have hm:d∈o.looksAt ops:=List.mem_append_right _ (by rw[hg];simp[hd]);simp only[h d hm]
  rw[this]
structure Inv (P:Program) (fl:Nat) (ops:Array Oper) (c0:Cx) (kW:List PD) (σs:Nat->List aA) (ps:Nat->PD) (df:List Deferred) (listed:Array Bool) (a:Act) (c:Cx) (fr:List PD) (b:Nat):Prop where
 size:listed.size=ops.size
 closed:PR ops (Lt listed)
 sr:Sr c
 nx:Nx fl c0 c
 σ:c.σ=σs b
 bN:b<=ops.size
 front:∀(j:Nat) (o:Oper),ops[j]?=some o->eS o.op=true->(Lt listed j↔j<b)
 FM:∀(i:Nat) (o:Oper) (t:TypeId),ops[i]?=some o->o.op=.alloc t->¬Lt listed i->¬c.D (c0.σ.length+iO ops.toList i)/\∃z,fP P t=some z/\z.cells.all PD.plain=true/\c.σ[c0.σ.length+iO ops.toList i]?=some (.box (boxed t z))
 BI:qT ops ps kW (Lt listed) fr
 fr:FR c a fr
 df:a.defers=df
theorem PS{listed:Array Bool}{i j:Nat}(hi:i<listed.size):Lt (listed.setIfInBounds i true) j↔Lt listed j\/j=i:=by
 unfold Lt
 by_cases e:i=j
 .subst e;simp[hi]
 .rw[Array.getElem?_setIfInBounds_ne e];exact⟨.inl,λh=>h.elim id (λh=>absurd h.symm e)⟩
theorem Inv.step{c0:Cx}{kW:Jq}{df:List Deferred}{listed:Array Bool}{a:Act}{c:Cx}{fr:Jq}{b:Nat}(hr:sG ops ms)(hi:Inv P fl ops c0 kW σs ps df listed a c fr b){i b':Nat}{o:Oper}(ho:ops[i]?=some o)
  (hready:∀e∈o.after,Region.binds .any e=true->Lt listed e.on) {c':Cx} {v:Value} (hs':Sr c') (nx':Nx fl c0 c') (eQ:c'.σ=σs b') (hb':b'<=ops.size)
  (hfront:∀(j:Nat) (o:Oper),ops[j]?=some o->eS o.op=true->((Lt listed j\/j=i)↔j<b'))
  (hholes:∀(j:Nat) (o:Oper) (t:TypeId),ops[j]?=some o->o.op=.alloc t->¬Lt listed j->j≠i->¬c'.D (c0.σ.length+iO ops.toList j)/\∃z,fP P t=some z/\z.cells.all PD.plain=true/\c'.σ[c0.σ.length+iO ops.toList j]?=some (.box (boxed t z)))
  (hf':FR c' a fr) (hv:VR c' v (ps i)):Inv P fl ops c0 kW σs ps df (listed.setIfInBounds i true) (a.put o.dst v) c' (bC fr o.dst (ps i)) b':=by
 have hlt:i<listed.size:=It;refine⟨by simpa using hi.size,?_,hs',nx',eQ,hb',?_,?_,?_,hf'.put hv _,?_⟩
 .intro j oj hj hoj e he hb;rw[PS hlt]at hj ⊢;rcases hj with hj|rfl
  .exact .inl (hi.closed j oj hj hoj e he hb)
  .rw[ho]at hoj;simp only[yAb]at hoj;subst hoj;exact .inl (hready e he hb)
 .intro j oj hoj hw;rw[PS hlt];exact hfront j oj hoj hw
 .intro j oj t hoj ht hn;rw[PS hlt]at hn;exact hholes j oj t hoj ht (λh=>hn (.inl h)) (λh=>hn (.inr h))
 .exact(hi.BI.put hr ho).congr λj=>(PS hlt).symm
 .rw[<-hi.df];cases o.dst<;>rfl
end
end
section
open Go.RowKit
theorem aB0{P:Program}{σ σ':Jp}{t:TypeId}{a p:PD}(h:qO P σ t a=some p)(he:∀id,gQ a=some id->σ'[id]?=σ[id]?):qO P σ' t a=some p:=by
 unfold qO at h ⊢;cases a<;>simp only at h ⊢<;>first|exact h|(simp at h;done)|skip
 .rename_i id off;rw[he id rfl];exact h
 .rename_i id ver off;rw[he id rfl];exact h
theorem aB1{P:Program}{σ:Jp}{t:TypeId}{a:PD}{id:Nat}{p:PD}(h:qO P σ t a=some p)(ha:gQ a=some id):id<σ.length:=by
 unfold qO at h;cases a<;>simp only[gQ,reduceCtorEq,yAb]at ha
 .subst ha;simp only at h;exact Aq
 .cases h
 .subst ha;simp only at h;exact Aq
theorem VR.aIo{c:Cx}{v:Value}{a:PD}{id:Nat}(h:VR c v a)(ha:gQ a=some id):c.D id:=by
 cases a<;>simp only[gQ,reduceCtorEq,yAb]at ha
 .subst ha;obtain⟨_,_,hd,_⟩:=h.u5;exact hd
 .subst ha;obtain⟨_,_,_,hd,_⟩:=h.FL;exact hd
 .subst ha;obtain⟨_,_,hd⟩:=h.HZ;exact hd.1
theorem aIp{σ σ':Jp}{a:PD}{xs:Jq}(h:BH σ a=some xs)(he:∀id,gQ a=some id->σ'[id]?=σ[id]?):BH σ' a=some xs:=by
 unfold BH at h ⊢;cases a<;>simp only at h ⊢<;>first|exact h|(simp at h;done)|skip
 rename_i id off n size;rw[he id rfl];exact h
theorem aB2{σ:Jp}{a:PD}{id:Nat}{xs:Jq}(h:BH σ a=some xs)(ha:gQ a=some id):id<σ.length:=by
 unfold BH at h;cases a<;>simp only[gQ,reduceCtorEq,yAb]at ha
 .cases h
 .subst ha;simp only at h;split at h
  .exact Aq
  .exact ak
 .cases h
theorem UU{P:Program}{σ:Jp}{s d:TypeId}{a p:PD}(h:DE P σ s d a=some p):∃xs,BH σ a=some xs:=by
 unfold DE at h;cases hx:BH σ a with
 |none=>rw[hx]at h;cases h
 |some xs=>exact⟨xs,rfl⟩
theorem aB3{P:Program}{σ σ':Jp}{s d:TypeId}{a p:PD}(h:DE P σ s d a=some p)(he:∀id,gQ a=some id->σ'[id]?=σ[id]?):DE P σ' s d a=some p:=by
 obtain⟨xs,hx⟩:=UU h;unfold DE at h ⊢;rw[aIp hx he];rw[hx]at h;exact h
section
variable{F:Fence}{P:Program}{call:cY}{fl n:Nat}{Q:Exit->Act->World->Prop}{ops:Ju}{frs:Nat->Jq}{σs:Nat->Jp}{ps:Nat->PD}{ft:Nat->Option Nat}{z:Nat->Bool}
 {c0:Cx} {df:List Deferred}
theorem aIq(hF:Open F P)(hc:Ok F P call)(hr:sG ops (cP ops.toList []))(ht:qQ P call fl ops (cP ops.toList []) c0.σ.length frs σs ps ft z)(hfeet:K9 ops (cP ops.toList []) ft z σs)
  (hs0:Sr c0) (qR:Xw fl c0) {listed:Array Bool} {a:Act} {c:Cx} {fr:Jq} {b:Nat} (hi:Inv P fl ops c0 (frs 0) σs ps df listed a c fr b) {i:Nat} (hmem:i∈Region.ready .any ops listed) {K:Act->World->Prop}
  (hK:∀a' c' fr' b',Inv P fl ops c0 (frs 0) σs ps df (listed.setIfInBounds i true) a' c' fr' b'->K a' c'.w):wpOpIn F n P ops Q i K a c.w:=by
 obtain⟨hun,o,ho,aIr⟩:=mem_ready.1 hmem;have hlt:i<ops.size:=qS ho;have hni:¬Lt listed i:=by
  intro h;unfold Lt at h;rw[yCY,h]at hun;cases hun
 have hready:∀e∈o.after,Region.binds .any e=true->Lt listed e.on:=λe he hb=>by
  have:=aIr e he hb;rw[yCY]at this;unfold Lt;cases hx:listed[e.on]? with
  |none=>rw[hx]at this;cases this
  |some t=>rw[hx]at this;simp at this;rw[this]
 have agree:=λx hx=>aIs hr ht hi.closed hi.BI ho hni hready (x:=x) hx
 have ev:=aIt agree;have hlen:fr.length=(frs i).length:=hi.BI.len.trans (ht.BI hr i (yBR hlt)).len.symm;have hXc:Xw fl c:=qR.next hs0 hi.nx;have hXm:Xw (max fl c.σ.length) c:=λid g hd hle _ _ _=>absurd (hi.sr.bJ id hd) Cj
 have frontN:eS o.op=false->∀(j:Nat) (oj:Oper),ops[j]?=some oj->eS oj.op=true->((Lt listed j\/j=i)↔j<b):=λhw j oj hoj hwj=>by
  have hne:j≠i:=by rintro rfl;rw[ho]at hoj;simp only[yAb]at hoj;subst hoj;rw[hw]at hwj;cases hwj
  rw[<-hi.front j oj hoj hwj];simp[hne]
 have wb:eS o.op=true->b<=i:=λhw=>by
  rcases yCj i b with h|h
  .exact absurd ((hi.front i o ho hw).2 h) hni
  .exact h
 have wlow:eS o.op=true->∀(j:Nat) (oj:Oper),ops[j]?=some oj->eS oj.op=true->j<i->Lt listed j:=λhw j oj hoj hwj hji=>
  aB4 hr.down hi.closed ho hready (hr.ord i o j oj ho hoj hw hwj hji)
 have frontW:eS o.op=true->∀(j:Nat) (oj:Oper),ops[j]?=some oj->eS oj.op=true->((Lt listed j\/j=i)↔j<i+1):=λhw j oj hoj hwj=>by
  constructor
  .rintro(h|rfl)
   .have:=(hi.front j oj hoj hwj).1 h;have:=wb hw;omega
   .omega
  .intro h;rcases yCj j i with h' | h'
   .exact .inl (wlow hw j oj hoj hwj h')
   .exact .inr Cj
 have UW:eS o.op=true->c.σ=σs i:=λhw=>by
  have hle:=wb hw;rw[hi.σ];have:=ht.UX hr (i:=b) (i-b) Cj λj oj h1 h2 hoj=>by
   cases hwj:eS oj.op with
   |false=>rfl
   |true=>exact absurd ((hi.front j oj hoj hwj).1 (wlow hw j oj hoj hwj Cj)) Cj
  rw[show b+(i-b)=i by omega]at this;exact this.symm
 have FM:∀ {eY:Nat} {c':Cx},Nx eY c c'->∀(j:Nat) (oj:Oper) (t:TypeId),ops[j]?=some oj->oj.op=.alloc t->¬Lt listed j->j≠i ->
   ¬c'.D (c0.σ.length+iO ops.toList j)/\∃z,fP P t=some z/\z.cells.all PD.plain=true/\c'.σ[c0.σ.length+iO ops.toList j]?=some (.box (boxed t z)):=λnx j oj t hoj hot hnl _=>by
  obtain⟨hnd,z,h1,h2,h3⟩:=hi.FM j oj t hoj hot hnl;have hl:=(yA.1 h3).1;exact⟨λhd=>(nx.new _ hd).elim hnd (λh=>Cj),z,h1,h2,(nx.hole _ hl hnd).trans h3⟩
 unfold wpOpIn;simp only[ho];rw[aB5 hi.fr,aIu agree];cases hw:Region.wanted o (cH ops (frs i))with
 |false=>
  obtain⟨hp,eQ⟩:=(ht i o ho).skip hw;simp only[yAx,yAN];refine⟨λf _=>hF.fn f,?_⟩;cases hW:eS o.op with
  |false=>exact hK _ c _ b (hi.step hr ho hready hi.sr hi.nx hi.σ hi.bN (frontN hW) (FM (.refl 0 c)) hi.fr (by rw[hp];exact VR.undef c))
  |true=>exact hK _ c _ (i+1) (hi.step hr ho hready hi.sr hi.nx ((UW hW).trans eQ.symm) hlt (frontW hW) (FM (.refl 0 c)) hi.fr (by rw[hp];exact VR.undef c))
 |true=>
  obtain⟨hrun,hfoot⟩:=(ht i o ho).run hw;simp only[yAK];have gen:∀(eY b':Nat) (σ1:List aA),fl<=eY->Xw eY c->cZ P call eY fr c.σ o.op=some (ps i,σ1)->(∀c',Nx eY c c'->c'.σ=σ1->c'.σ=σs b')->b'<=ops.size ->
    (∀(j:Nat) (oj:Oper),ops[j]?=some oj->eS oj.op=true->((Lt listed j\/j=i)↔j<b'))->o.wpIn F n P a c.w K Q:=by
   intro eY b' σ1 hle hX' hst aIv hb' hfront;refine aB6 hF hc hi.sr hX' hi.fr hst λv w' hl=>?_
   obtain⟨c',rfl,e,hs',nx,hv,_⟩:=hl;exact hK _ c' _ b' (hi.step hr ho hready hs' (hi.nx.trans (nx.weaken hle)) (aIv c' nx e) hb' hfront (FM nx) (hi.fr.mono nx) hv)
  unfold iA at hrun
  by_cases hA:fB o.op=true
  .obtain⟨hpc,_,hW,_⟩:=aBP (fr:=fr) hA;rw[yAJ hA]at hrun;split at hrun
   .rename_i p hp;simp only[yAb,yAc]at hrun;obtain⟨rfl,_⟩:=hrun;refine gen fl b c.σ (yAk _) hXc ?_ (λc' _ e=>e.trans hi.σ) hi.bN (frontN hW);unfold cZ pop;rw[hpc,aB7 _ ev,hp]
   .simp at hrun
  .simp only[yCw]at hA;rw[hA]at hrun;simp only[yAx,yAN]at hrun
   by_cases hB:dA o.op=true
   .obtain⟨_,hW,_,t,hop⟩:=aIw hB;rw[yAJ hB]at hrun;simp only[yAb,yAc]at hrun;obtain⟨hp,_⟩:=hrun;obtain⟨hnd,z,hz,hpl,hbox⟩:=hi.FM i o t ho hop hni;obtain⟨zv,inf,hinf,hzv,hzr⟩:=FN (c:=c) hz;have nU:=(UY (P:=P) (fl:=fl) hi.sr (PL hz hinf hzv t) (aY.zH hzr.cells hpl) t (λt' ds e=>PM hzr e)).1;have hrun:(execOp a.eval o).run P c.w=.ok (.value (.pointer (some ⟨c.w.heap.size,0,none⟩))) (c.w.alloc (.cells zv.cells t)):=by
     obtain⟨dst,op,ty,pos,after,guard⟩:=o;simp only at hop;subst hop;simp[execOp,Instr.alloc,zeroValue,typeInfo,hinf,hzv,nU]
    refine⟨λf _=>hF.fn f,?_⟩;rw[Oper.semAt_eq _ _ _ (by rw[hop];intro d e;cases e),hrun];have hg:c.w.grownBy (c.w.alloc (.cells zv.cells t)) none:=zA _ _;have jL:∀b',bE (.pointer (some ⟨c.w.heap.size,0,none⟩))=some b'->c.w.heap.size<=b':=λb' hb=>Hg
    have hnv:Nv c (c.oX (c.w.alloc (.cells zv.cells t)) (c0.σ.length+iO ops.toList i) (.pointer (some ⟨c.w.heap.size,0,none⟩))):=Nv.oX hnd hbox hg jL;refine hK _ (c.oX (c.w.alloc (.cells zv.cells t)) (c0.σ.length+iO ops.toList i) (.pointer (some ⟨c.w.heap.size,0,none⟩))) _ b
     (hi.step hr ho hready (hi.sr.oX hnd hbox hg (yAk _) (yBW _ _) (PL hz hinf hzv t) ⟨aY.zH hzr.cells hpl,λt' ds e=>PM hzr e⟩) (hi.nx.oX hnd hbox hg jL Cj) hi.σ hi.bN (frontN hW) ?_ ⟨aY.oY hnv hi.fr.1,(hi.sr.oX hnd hbox hg (yAk _) (yBW _ _) (PL hz hinf hzv t) ⟨aY.zH hzr.cells hpl,λt' ds e=>PM hzr e⟩).kG⟩ ?_)
    .intro j oj t' hoj hot hnl hne;obtain⟨aIx,z',h1,h2,h3⟩:=hi.FM j oj t' hoj hot hnl;refine⟨λhd=>?_,z',h1,h2,h3⟩;rcases hd with hd|hd
     .exact aIx hd
     .exact aIy (l:=ops.toList) (by simpa using hoj) Fe (by rw[hot];rfl) hB hne Cj
    .rw[<-hp];exact .ptr _ _ _ (.inr rfl) ⟨_,hbox⟩ DF
   .simp only[yCw]at hB;rw[hB]at hrun;simp only[yAx,yAN]at hrun
    by_cases hM:dR o.op=true
    .have hW:eS o.op=true:=by simp[eS,hM]
     have eQ:=UW hW;rw[hM]at hrun;cases hfree:z i with
     |true=>
      rw[hfree]at hrun;simp only[yBQ,Bool.and_false,yAx,yAN,yAK]at hrun;refine gen fl (i+1) (σs (i+1)) (yAk _) hXc ?_ (λc' _ e=>e) hlt (frontW hW);rw[aB8 hlen _ ev,eQ];exact hrun
     |false=>
      rw[hfree]at hrun;simp only[yCu,yCr,yAK]at hrun;split at hrun
      .rename_i p σ1 hst;simp only[yAb,yAc]at hrun;obtain⟨rfl,aIz⟩:=hrun;refine gen (max fl c.σ.length) (i+1) σ1 Cj hXm ?_ (λc' nx e=>?_) hlt (frontW hW)
       .rw[aB8 hlen _ ev,eQ];exact hst
       .rw[<-aIz,<-e,<-eQ];refine yCs λid=>?_
        rcases yCj id c.σ.length with h|h
        .rw[yAg h];exact nx.ro id Cj h
        .rw[yBP h,yBi]
         congr 1;omega
      .simp at hrun
    .simp only[yCw]at hM;rw[hM]at hrun;simp only[yAY,yAx,yAN]at hrun;have hsh:=hr.shape i o ho;simp only[hA,hB,eS,hM,yCa,yDI,yBu]at hsh
     by_cases hst:fX o.op=true
     .have hW:eS o.op=true:=by simp[eS,hst]
      obtain⟨jL,LA,_⟩:=K0 (P:=P) (fr:=fr) (.inr (.inr hst));refine gen fl (i+1) (σs (i+1)) (yAk _) hXc ?_ (λc' _ e=>e) hlt (frontW hW);unfold cZ pop;rw[LA,jL];simp only;rw[PN hlen _ ev,UW hW];exact hrun
     .have hW:eS o.op=false:=by simp[eS,hM,hst]
      by_cases hL:eJ o.op=true
      .obtain⟨jL,LA,_⟩:=K0 (P:=P) (fr:=fr) (.inl hL);refine gen fl b c.σ (yAk _) hXc ?_ (λc' _ e=>e.trans hi.σ) hi.bN (frontN hW);unfold cZ pop;rw[LA,jL];simp only;rw[PN hlen _ ev];obtain⟨dst,op,ty,pos,after,guard⟩:=o;have aB9:∀x ad,op.operands=#[x]->bD (frs i) x=some ad->(kX (frs i) op=gQ ad)->(∀id,gQ ad=some id->id<(σs i).length)->∀id,gQ ad=some id->c.σ[id]?=(σs i)[id]?:=by
        intro x ad hopx had hfe hltA id hida;have hfid:ft i=some id:=by rw[hfoot,hfe,hida]
        rcases yCj i b with hib|hbi
        .have h1:=(ht.UZ hr hfeet ho hL hfid (m:=i) (b-i) (by have:=hi.bN;omega) (λk ok h1 h2 hok hwk=>by
          have hk:Lt listed k:=(hi.front k ok hok hwk).2 Cj;unfold loose;simp only[yAr,yBv,];refine⟨?_,?_⟩
          .cases hx:((cP ops.toList []).getD i 0).testBit k with
           |false=>rfl
           |true=>exact absurd (aCa hr.down i k hx) Cj
          .cases hx:((cP ops.toList []).getD k 0).testBit i with
           |false=>rfl
           |true=>exact absurd (aCb hr.down hi.closed k i hk hx) hni) (hltA id hida)).1
         rw[show i+(b-i)=b by omega]at h1;rw[hi.σ];exact h1
        .have hd:id<(σs b).length:=by
          have hev:bD fr x=some ad:=by
           rw[ev x (by rw[hopx];simp)];exact had
          have hd:=(eT hi.fr hev).aIo hida;rw[<-hi.σ];exact hi.sr.bJ id hd
         have h1:=(ht.UZ hr hfeet ho hL hfid (m:=b) (i-b) Cj (λk ok h1 h2 hok hwk=>by
          have hk:¬Lt listed k:=λhk=>absurd ((hi.front k ok hok hwk).1 hk) Cj
          unfold loose;simp only[yAr,yBv,];refine⟨?_,?_⟩
          .cases hx:((cP ops.toList []).getD i 0).testBit k with
           |false=>rfl
           |true=>exact absurd (aB4 hr.down hi.closed ho hready hx) hk
          .cases hx:((cP ops.toList []).getD k 0).testBit i with
           |false=>rfl
           |true=>exact absurd (aCa hr.down k i hx) Cj) hd).1
         rw[show b+(i-b)=i by omega]at h1;rw[hi.σ];exact h1.symm
       by_cases hcv:∃s d x,op=.convert s d x
       .obtain⟨s,d,x,rfl⟩:=hcv;simp only[dE]at hrun ⊢;split at hrun
        .rename_i htc;rw[yAJ htc];split at hrun
         .rename_i ad had;split at hrun
          .exact ym
          .split at hrun
           .rename_i p hp;obtain⟨xs,hxs⟩:=UU hp;rw[aB3 hp (aB9 x ad rfl had (by simp only[kX,had]) (λid=>aB2 hxs))];exact ym
           .cases hrun
         .cases hrun
        .cases hrun
       obtain⟨t,x,rfl⟩:∃t x,op=.load t x:=by cases op<;>simp[eJ]at hL hcv ⊢
       simp only[dE]at hrun ⊢;split at hrun
       .rename_i ad had;split at hrun
        .rename_i p hp;simp only[yAb,yAc]at hrun;obtain⟨rfl,_⟩:=hrun;have hkeep:∀id,gQ ad=some id->c.σ[id]?=(σs i)[id]?:=aB9 x ad rfl had (by simp only[kX,had]) (λid=>aB1 hp);rw[aB0 hp hkeep]
        .simp at hrun
       .simp at hrun
      .have hS:mS o.op=true:=by simpa [hL,hst]using hsh
       obtain⟨jL,LA,_⟩:=K0 (P:=P) (fr:=fr) (.inr (.inl hS));refine gen fl b c.σ (yAk _) hXc ?_ (λc' _ e=>e.trans hi.σ) hi.bN (frontN hW);unfold cZ pop;rw[LA,jL];simp only;rw[PN hlen _ ev];obtain⟨dst,op,ty,pos,after,guard⟩:=o
       by_cases hmk:∃t x y,op=.makeSlice t x y
       .obtain⟨t,x,y,rfl⟩:=hmk;obtain⟨q,hq⟩:=pmem_make (P:=P) hS;simp only[hq]at hrun ⊢;cases q with
        |none=>cases hrun
        |some q=>
         simp only[yAC,yAb,yAc]at hrun ⊢;exact⟨hrun.1,trivial⟩
       obtain⟨t,ln,parts,rfl⟩:∃t ln parts,op=.buildSlice t ln parts:=by cases op<;>simp[mS]at hS hmk ⊢
       simp only[dE]at hrun ⊢;split at hrun
       .rename_i qs hqs;split at hrun
        .rename_i p hp;simp only[yAb,yAc]at hrun;obtain⟨rfl,_⟩:=hrun;rfl
        .simp at hrun
       .simp at hrun
theorem aIA(hr:sG ops (cP ops.toList []))(ht:qQ P call fl ops (cP ops.toList []) c0.σ.length frs σs ps ft z){listed:Array Bool}{a:Act}{c:Cx}{fr:Jq}{b:Nat}(hi:Inv P fl ops c0 (frs 0) σs ps df listed a c fr b)
  (hnil:Region.ready .any ops listed=[]):c.σ=σs ops.size/\fr=frs ops.size:=by
 have hall:∀i,i<ops.size->Lt listed i:=by
  intro i
  induction i using Nat.strongRecOn with
  |_ i ih=>
   intro hlt;have ho:ops[i]?=some ops[i]:=yCx hlt;have hls:i<listed.size:=by rw[hi.size];exact hlt
   cases hb:listed[i]with
   |true=>unfold Lt;rw[yCx hls,hb]
   |false=>
    have:i∈Region.ready .any ops listed:=mem_ready.2 ⟨by rw[yCY,yCx hls,hb];rfl,_,ho,λe he hbd=>by
     have hd:=hr.down i _ ho e he hbd;have:=ih e.on hd Cj;unfold Lt at this;rw[yCY,this];rfl⟩
    rw[hnil]at this;cases this
 constructor
 .rw[hi.σ];have:=ht.UX hr (i:=b) (ops.size-b) (by have:=hi.bN;omega) λj oj h1 h2 hoj=>by
   cases hwj:eS oj.op with
   |false=>rfl
   |true=>exact absurd ((hi.front j oj hoj hwj).1 (hall j (qS hoj))) Cj
  rw[show b+(ops.size-b)=ops.size by have:=hi.bN;omega]at this;exact this.symm
 .exact hi.BI.same hr (ht.BI hr ops.size (yAk _)) λj o hoj=>⟨λ_=>qS hoj,λh=>hall j h⟩
theorem aIB(hF:Open F P)(hc:Ok F P call)(hr:sG ops (cP ops.toList []))(ht:qQ P call fl ops (cP ops.toList []) c0.σ.length frs σs ps ft z)(hfeet:K9 ops (cP ops.toList []) ft z σs)
  (hs0:Sr c0) (qR:Xw fl c0) (hQ:∀c' a',c'.σ=σs ops.size->Sr c'->Nx fl c0 c'->FR c' a' (frs ops.size)->a'.defers=df->Q .normal a' c'.w) :
  ∀(fuel:Nat) (listed:Array Bool) (a:Act) (c:Cx) (fr:List PD) (b:Nat),Inv P fl ops c0 (frs 0) σs ps df listed a c fr b->listed.toList.countP (·==false)<=fuel->wpAnyIn F n P .any ops Q fuel listed a c.w:=by
 have done:∀(listed:Array Bool) (a:Act) (c:Cx) (fr:List PD) (b:Nat),Inv P fl ops c0 (frs 0) σs ps df listed a c fr b->Region.ready .any ops listed=[]->Q .normal a c.w:=by
  intro listed a c fr b hi hnil;obtain⟨e1,e2⟩:=aIA hr ht hi hnil;exact hQ c a e1 hi.sr hi.nx (e2▸hi.fr) hi.df
 intro fuel
 induction fuel with
 |zero=>
  intro listed a c fr b hi hn;have h0:∀x∈listed.toList,¬(x==false)=true:=List.countP_eq_zero.1 (yCZ.1 hn);have hnil:Region.ready .any ops listed=[]:=by
   apply List.eq_nil_iff_forall_not_mem.2;intro i hm;obtain⟨hun,o,ho,_⟩:=mem_ready.1 hm;have hls:i<listed.size:=It;rw[yCY,yCx hls]at hun;exact h0 _ (yCg.2 (Array.getElem_mem hls)) (by simpa using hun)
  exact⟨hnil,done listed a c fr b hi hnil⟩
 |succ fuel ih=>
  intro listed a c fr b hi hn;refine⟨done listed a c fr b hi,λi hm=>aIq hF hc hr ht hfeet hs0 qR hi hm λa' c' fr' b' hi'=>ih _ a' c' fr' b' hi' ?_⟩;obtain⟨hun,o,ho,_⟩:=mem_ready.1 hm;have hls:i<listed.size:=It;have hli:i<listed.toList.length:=by simpa using hls
  rw[yCY,yCx hls]at hun;simp only[yDq]at hun;rw[yDZ,List.countP_set hli];have hpos:0<listed.toList.countP (·==false):=List.countP_pos_iff.2 ⟨listed[i],yCg.2 (Array.getElem_mem hls),by simp[hun]⟩;have e:listed.toList[i]=false:=by simpa using hun
  rw[e];simp only[beq_self_eq_true,yAK,show(true==false)=false from rfl,yAx,yAN];omega
theorem aCc(hF:Open F P)(hc:Ok F P call){a:Act}{fr fr':Jq}{σ' hst:Jp}(hs:Sr c0)(hX:Xw fl c0)(hf:FR c0 a fr)(hr:sG ops (cP ops.toList []))(hho:mT P ops.toList=some hst)
  {frs:Nat->Jq} {σs:Nat->Jp} {ps:Nat->PD} {ft:Nat->Option Nat} {z:Nat->Bool} (e1:frs 0=fr) (e2:σs 0=c0.σ++hst) (e3:frs ops.size=fr') (e4:σs ops.size=σ')
  (ht:qQ P call fl ops (cP ops.toList []) c0.σ.length frs σs ps ft z) (hfeet:K9 ops (cP ops.toList []) ft z σs)
  (hQ:∀c' a',c'.σ=σ'->Sr c'->Nx fl c0 c'->FR c' a' fr'->a'.defers=a.defers->Q .normal a' c'.w):wpAnyIn F n P .any ops Q ops.size (Array.replicate ops.size false) a c0.w:=by
 have hs':=hs.ahead hst;refine aIB (df:=a.defers) hF hc hr ht hfeet hs hX (λc' a' h1 h2 h3 h4 h5=>hQ c' a' (h1.trans e4) h2 h3 (e3▸h4) h5) ops.size _ a (c0.ahead hst) fr 0 ?_ ?_
 .refine⟨Ck,?_,hs',Nx.ahead hs hst,e2.symm,yAF _,?_,?_,?_,FR.mono (Nx.ahead (fl:=0) hs hst) hf,rfl⟩
  .intro i o hi;unfold Lt at hi;rw[yE]at hi;split at hi<;>simp at hi
  .intro j o _ _;unfold Lt;rw[yE];split<;>simp
  .intro i o t ho hot _;obtain⟨z,h1,h2,h3⟩:=U0 hho i o t Fe hot;refine⟨λhd=>absurd (hs.bJ _ hd) Cj,z,h1,h2,?_⟩;show(c0.σ++hst)[_]?=_
   rw[yBP Cj,show c0.σ.length+iO ops.toList i-c0.σ.length=iO ops.toList i by omega];exact h3
  .rw[<-e1];refine .start λj hj=>?_
   unfold Lt at hj;rw[yE]at hj;split at hj<;>simp at hj
 .exact yAQ List.countP_le_length Ck
theorem aCd{tr:List TE}{ft:Nat->Option Nat}(hfo:pI ops.toList (cP ops.toList []) tr=true)(hft:∀j,0<=j->j<ops.size->ft j=(tr[j-0]?).bind TE.jV) :
  ∀(k i:Nat) (ok oi:Oper),ops[k]?=some ok->ops[i]?=some oi->fX ok.op=true->eJ oi.op=true->loose (cP ops.toList []) i k=true->∀a b,ft i=some a->ft k=some b->a≠b:=by
 intro k i ok oi H0 hoi hsk hli hloose x y hx hy;simp only[pI,yAn,yAS]at hfo;have h1:=hfo k (by simpa using qS H0);rw[PQ H0,hsk]at h1;simp only[yBQ,yCa,yAn,yAS]at h1;have h2:=h1 i (by simpa using qS hoi);rw[PQ hoi,hli,hloose]at h2;have hxi:=hft i (yAF _) (qS hoi);have hyk:=hft k (yAF _) (qS H0);simp only[yDt]at hxi hyk;rw[<-hxi,<-hyk,hx,hy]at h2;simpa using h2
theorem aIj(hF:Open F P)(hc:Ok F P call){a:Act}{fr fr':Jq}{σ':Jp}(hs:Sr c0)(hX:Xw fl c0)(hf:FR c0 a fr)(h:mU P call fl ops fr c0.σ=some (fr',σ'))
  (hQ:∀c' a',c'.σ=σ'->Sr c'->Nx fl c0 c'->FR c' a' fr'->a'.defers=a.defers->Q .normal a' c'.w):wpAnyIn F n P .any ops Q ops.size (Array.replicate ops.size false) a c0.w:=by
 unfold mU at h;split at h
 .rename_i x h;simp only[yAb]at h;subst h;rename_i h;unfold nS at h;simp only at h;split at h
  .rename_i hok;have hr:=BE hok;split at h
   .rename_i hst hho;split at h
    .rename_i tr aX σ1 hops;split at h
     .rename_i hfo;simp only[yAb,yAc]at h;obtain⟨rfl,rfl⟩:=h;obtain⟨frs,σs,ps,ft,e1,e2,e3,e4,htr,hft⟩:=aIC (k0:=c0.σ.length) ops.toList 0 _ _ _ _ _ _ Ck (by simp[iO]) hops;simp only[yAp,yBc]at e3 e4 hft;have ht:qQ P call fl ops (cP ops.toList []) c0.σ.length frs σs ps ft (λi=>kT ops.toList (cP ops.toList []) i):=λi o ho=>htr i o (yAF _) ho
      refine aCc hF hc hs hX hf hr hho e1 e2 e3 e4 ht ⟨aCd hfo hft,?_⟩ hQ;intro k i ok oi id H0 hoi hmk hli hlo hz _;simp only[kT,yAn,yAS]at hz;have:=hz i (by simpa using qS hoi);rw[PQ hoi,hli,hlo]at this;simp at this
     .exact ak
    .exact ak
   .exact ak
  .exact ak
 .split at h
  .rename_i hok;have hr:=BE hok;split at h
   .rename_i hst hho;split at h
    .rename_i tr aX σ1 hops;split at h
     .rename_i hfo;obtain⟨hfo,hkp⟩:=hfo;simp only[yAb,yAc]at h;obtain⟨rfl,rfl⟩:=h;obtain⟨frs,σs,ps,ft,e1,e2,e3,e4,htr,hft,aCe⟩:=aID (k0:=c0.σ.length) (ms:=cP ops.toList []) ops.toList 0 _ _ _ _ _ _ Ck (by simp[iO]) hops;simp only[yAp,yBc]at e3 e4 hft;have ht:qQ P call fl ops (cP ops.toList []) c0.σ.length frs σs ps ft (λ_=>true):=λi o ho=>htr i o (yAF _) ho
      refine aCc hF hc hs hX hf hr hho e1 e2 e3 e4 ht ⟨aCd hfo hft,?_⟩ hQ;intro k i ok oi id H0 hoi hmk hli hlo _ hid;have aIE:(tr[i]?).bind TE.jV=some id:=by
       have:=hft i (yAF _) (qS hoi);rw[yDt]at this;rw[<-this,hid]
      have:=hkp k i id ok oi (by simpa using H0) (by simpa using hoi) hmk hli hlo aIE;have h1:=aCe k (yAF _);have h2:=aCe (k+1) (yAF _);simp only[yDt]at h1 h2;rw[h1,h2];exact this
     .exact ak
    .exact ak
   .exact ak
  .exact ak
end
end
section
open Go.RowKit
section
variable{F:Fence}{n:Nat}{P:Program}{Q:Exit->Act->World->Prop}{a:Act}{w:World}
def BF(F:Fence)(n:Nat)(P:Program)(c:Code)(Q:Exit->Act->World->Prop)(a:Act)(w:World):Prop:=
 ∀(b:Frame) (k:List Item) (cs:List Frame),b.roundOf=F.round->F.fn b.fn->F.room (cs.length+1+n) ->
  ∃e a' w',Q e a' w'/\ArrivesIn (Machine.fenced P F) P (lone (b.atR a (.code c::.inLoop c::k)) cs w) b k cs e a' w'
theorem BF.wpIn{c:Code}(h:BF F n P c Q a w):(Code.loop c).wpIn F n P Q a w:=λb k cs hro hb hr=>
 let ⟨e,a',w',q,r⟩:=h b k cs hro hb hr;⟨e,a',w',q,.of_steps (.one (fenced_calm hb hr rfl) stepR_loop) r⟩
theorem BF.round{c:Code}(h:c.wpIn F n P (Exit.then (BF F n P c Q) Q) a w):BF F n P c Q a w:=by
 intro b k cs hro hb hr;obtain⟨e,a₁,w₁,hq,harr⟩:=h b (.inLoop c::k) cs hro hb hr;cases e with
 |normal=>
  obtain⟨e₂,a₂,w₂,hq₂,harr₂⟩:=hq b k cs hro hb hr;exact⟨e₂,a₂,w₂,hq₂,.of_steps (StepsIn.trans harr (.one (fenced_calm hb hr rfl) stepR_inLoop)) harr₂⟩
 |exit id=>exact⟨_,a₁,w₁,hq,.pass (x:=.inLoop c) rfl (λ_ _=>.inl Ck) harr⟩
 |goto l=>exact⟨_,a₁,w₁,hq,.pass (x:=.inLoop c) rfl (λ_ _=>.inl Ck) harr⟩
 |ret=>exact⟨_,a₁,w₁,hq,.pass (x:=.inLoop c) rfl (λ_ _=>.inl Ck) harr⟩
 |panic ch=>exact⟨_,a₁,w₁,hq,.pass (x:=.inLoop c) rfl (λ_ _=>.inl Ck) harr⟩
 |outgrown=>exact⟨_,a₁,w₁,hq,.pass (x:=.inLoop c) rfl (λ_ _=>.inl Ck) harr⟩
def rK(F:Fence)(n:Nat)(P:Program)(c:Code)(Q:Exit->Act->World->Prop)(a:Act)(w:World):Prop:=
 match c with
 |.loop b=>BF F n P b Q a w
 |c=>c.wpIn F n P Q a w
theorem rK.wpIn{c:Code}(h:rK F n P c Q a w):c.wpIn F n P Q a w:=by
 unfold rK at h;split at h
 .exact BF.wpIn h
 .exact h
end
def MR(c:Cx):List Deferred->List Nat->Prop
 | [],[]=>True
 |d::ds,m::ms=>(∃b,d.target=.collected b/\c.D m/\mK c.σ[m]?/\c.ρ m=.pointer (some ⟨b,0,none⟩))/\MR c ds ms
 |_,_=>False
theorem MR.mono{fl:Nat}{c c':Cx}(nx:Nx fl c c'):∀ {ds:List Deferred} {ms:List Nat},MR c ds ms->MR c' ds ms
 | [],[],_=>trivial
 |d::ds,m::ms,h=>by
  obtain⟨⟨b,h1,h2,h3,h4⟩,h5⟩:=h;obtain⟨e,k⟩:=nx.oF m h2 h3;exact⟨⟨b,h1,nx.bJ m h2,k,e.trans h4⟩,MR.mono nx h5⟩
 | [],_::_,h=>h.elim
 |_::_,[],h=>h.elim
def DB(F:Fence)(c:Cx):Option Nat->Prop
 |none=>F.round=none
 |some id=>∃l,F.round=some l/\c.D id/\mK c.σ[id]?/\c.ρ id=.pointer (some ⟨l,0,none⟩)
theorem DB.mono{fl:Nat}{F:Fence}{c c':Cx}(nx:Nx fl c c'){rd:Option Nat}(h:DB F c rd):DB F c' rd:=by
 cases rd with
 |none=>exact h
 |some id=>
  obtain⟨l,h1,h2,h3,h4⟩:=h;obtain⟨e,k⟩:=nx.oF id h2 h3;exact⟨l,h1,nx.bJ id h2,k,e.trans h4⟩
def UP(P:Program)(code:uZ):Prop:=
 ∀ {F:Fence} {rd:Option Nat} {c:Code} {fl:Nat} {fr:Jq} {ms:List Nat} {cx:Cx} {r:PO} {a:Act},Open F P->code rd c fl fr ms cx.σ=some r->Sr cx->Xw fl cx->FR cx a fr->MR cx a.defers ms->DB F cx rd ->
   ∀(m:Nat) (Q:Exit->Act->World->Prop),(∀mL a',mL.σ=r.σ->Sr mL->Nx fl cx mL->FR mL a' r.fr->MR mL a'.defers r.ms->Q r.x.K2 a' mL.w)->rK F m P c Q a cx.w
section
variable{P:Program}{c:Cx}{fl:Nat}
theorem aIn(hs:Sr c){a:Act}{fr:Jq}(hf:FR c a fr){rv:ResultVar}{p:PD}(h:C7 P fr c.σ rv=some p) :
  ∃v,((match rv with|.tmp t=>pure (a.tmps.getD t undef)|.cell x t=>do loadVar t (<-asAddr (a.tmps.getD x undef)):Sem Value)).run P c.w=.ok v c.w/\VR c v p:=by
 cases rv with
 |tmp t=>
  simp only[C7,yAb]at h;subst h;exact⟨_,rfl,hf.tmp t⟩
 |cell x t=>
  simp only[C7]at h;split at h
  .rename_i id off hid;have hv:=hf.tmp x;rw[hid]at hv;obtain⟨v,r,q⟩:=aBY (P:=P) hs h hv;obtain⟨b,e,_⟩:=hv.u5;refine⟨v,?_,q⟩;rw[e]at r;simp only[e,asAddr];simpa [Instr.loadAt,Instr.sureAddr]using r
  .exact ak
theorem aBZ(hs:Sr c){a:Act}{fr:Jq}(hf:FR c a fr){f:ResultVar->Sem Value}(hfn:∀(rv:ResultVar) (p:PD),C7 P fr c.σ rv=some p->∃v,(f rv).run P c.w=.ok v c.w/\VR c v p):∀ {l:List ResultVar} {qs:Jq},y6 P fr c.σ l=some qs ->
  ∃vs:List Value,(l.mapM f).run P c.w=.ok vs c.w/\aY c vs qs
 | [],qs,h=>by
   simp only[y6,yAb]at h;subst h;exact⟨[],by simp[List.mapM_nil],rfl,Ck⟩
 |rv::l,qs,h=>by
  simp only[y6]at h;split at h
  .rename_i p ps h1 h2;simp only[yAb]at h;subst h;obtain⟨v,r,hv⟩:=hfn rv p h1;obtain⟨vs,rs,hvs⟩:=aBZ hs hf hfn h2;refine⟨v::vs,by simp[List.mapM_cons,yBb,r,rs,Result.andThen],by simpa using hvs.1,λi u d hu hd=>?_⟩;cases i with
   |zero=>simp at hu hd;subst hu hd;exact hv
   |succ i=>exact hvs.2 i u d Hz Hw
  .exact ak
theorem aIm(hs:Sr c){a:Act}{fr:Jq}(hf:FR c a fr){fn:Func}{qs:Jq}(h:y6 P fr c.σ fn.results.toList=some qs):∃v,(results fn a.tmps).run P c.w=.ok v c.w/\VR c v (FF qs):=by
 obtain⟨vs,r,hv⟩:=aBZ hs hf (λrv p=>aIn hs hf) h;unfold results;rw[Array.mapM_eq_mapM_toList];rw[map_eq_pure_bind];simp only[yBb]
 generalize hg:Sem.run P (List.mapM _ fn.results.toList) c.w=res
 have e:res=.ok vs c.w:=hg.symm.trans r;subst e;simp only[Result.andThen,yBl];have hl:=hv.1
 by_cases h1:vs.length=1
 .obtain⟨v,rfl⟩:∃v,vs=[v]:=by
   match vs,h1 with
   | [v],_=>exact⟨v,rfl⟩
  obtain⟨p,rfl⟩:∃p,qs=[p]:=by
   match qs,hl with
   | [p],_=>exact⟨p,rfl⟩
  exact⟨v,Ck,hv.2 0 v p rfl rfl⟩
 .have e:FF qs=.aH qs:=by
   match qs,hl with
   | [],_=>rfl
   | [p],hl=>exact absurd hl h1
   |_::_::_,_=>rfl
  rw[e];refine⟨.tuple vs.toArray,?_,.aH vs qs hv.1 hv.2⟩;rw[dif_neg Ei]
end
end
section
open Go.RowKit
section
variable{P:Program}{fl:Nat}
theorem aBT{b b':Nat}(h:Value.pointer (some ⟨b,0,none⟩)=Value.pointer (some ⟨b',0,none⟩)):b=b':=Dl
theorem aBU{F:Fence}{n:Nat}{fn:Func}{tmps:Jt}{R:Ending->World->Prop}:∀(ms:List Nat) (ds:List Deferred) (c:Cx) (σ':List aA),BD fl ms c.σ=some σ'->Sr c->MR c ds ms ->
  (∀c',c'.σ=σ'->Sr c'->Nx fl c c'->LeavesInM F n P fn tmps R [] .returning c'.w)->LeavesInM F n P fn tmps R ds .returning c.w
 | [],[],c,σ',h,hs,_,hR=>by
   simp only[BD,yAb]at h;exact hR c h hs (.refl _ _)
 |m::ms,d::ds,c,σ',h,hs,hm,hR=>by
  obtain⟨⟨b,h1,h2,h3,h4⟩,h5⟩:=hm;simp only[BD]at h;split at h
  .rename_i hfl;split at h
   .rename_i hmk;obtain⟨b',e1,e2⟩:=hs.mark m h2 hmk;have e:=aBT (h4.symm.trans e1);subst e;have nx:Nx fl c (c.put (c.w.putObj b (.deferred none)) m (c.ρ m) .none):=Nx.wM hs h2 hmk trivial trivial (by rw[h4];rfl) hfl e2 Ck;have hs':Sr (c.put (c.w.putObj b (.deferred none)) m (c.ρ m) .none):=Sr.wM hs h2 hmk trivial trivial (by rw[h4];rfl) e2 Ck trivial;refine⟨Ck,.inl ⟨b,c.w.putObj b (.deferred none),h1,run_takeDeferred e2,?_⟩⟩;exact aBU ms ds _ σ' h hs' (h5.mono nx) (λc' q1 q2 q3=>hR c' q1 q2 (nx.trans q3))
   .exact ak
  .exact ak
 | [],_::_,_,_,_,_,hm,_=>hm.elim
 |_::_,[],_,_,_,_,hm,_=>hm.elim
theorem Leaves.of{c c':Cx}{p:PD}{v:Value}(hs:Sr c')(nx:Nx fl c c')(hv:VR c' v p):Leaves fl c p c'.σ v c'.w:=
 ⟨c',rfl,rfl,hs,nx,hv,λid hd=>(nx.new id hd).imp (λh=>h) (λh=>⟨h,hs.bJ id hd⟩)⟩
theorem aBV{c:Cx}:∀(ts:List Tmp) (vs:List Value) (ps:List PD) (a:List Value) (fr:List PD),aY c vs ps->aY c a fr->ts.length=vs.length->aY c ((ts.zip vs).foldl (λtmps x=>tmps.set x.1 x.2) a) (FE fr ts ps)
 | [],_,_,a,fr,_,h,_=>by simpa [FE]using h
 |t::ts,[],_,_,_,_,_,hl=>by simp at hl
 |t::ts,v::vs,[],_,_,hv,_,_=>by have:=hv.1;simp at this
 |t::ts,v::vs,p::ps,a,fr,hv,h,hl=>by
  simp only[List.zip_cons_cons,yDs,FE];refine aBV ts vs ps _ _ ⟨by simpa using hv.1,λi u d hu hd=>hv.2 (i+1) u d Hz Hw⟩ ⟨by simpa using h.1,λi u d hu hd=>?_⟩ Fa;rw[yCX]at hu hd
  by_cases e:t=i
  .subst e;simp only[yAK]at hu hd;split at hu
   .split at hd
    .simp only[yAb]at hu hd;subst hu hd;exact hv.2 0 _ _ rfl rfl
    .simp at hd
   .simp at hu
  .rw[yAI e]at hu hd;exact h.2 i u d hu hd
theorem aBW:∀(l:List (Tmp×Value)) (a:Array Value),(l.foldl (λtmps x=>tmps.setIfInBounds x.1 x.2) a).toList=l.foldl (λtmps x=>tmps.set x.1 x.2) a.toList
 | [],a=>rfl
 |x::l,a=>by simp only[yDs];rw[aBW l];simp
theorem FJ{c:Cx}(hs:Sr c){id l:Nat}{st:HV}{fr:Jq}{ps:List Tmp}{asg bd:Code}(hd:c.D id)(ho:c.σ[id]?=some (.loop st fr ps asg bd))(hr:c.ρ id=.pointer (some ⟨l,0,none⟩)) :
  ∃r,c.w.heap[l]?=some (.loop r)/\r.params=ps.toArray/\r.assign=asg/\r.body=bd/\aY c r.tmps.toList fr/\st.fits r:=by
 obtain⟨b,r,e1,e2,e3⟩:=hs.loop id st fr ps asg bd hd ho;have e:=aBT (hr.symm.trans e1);subst e;exact⟨r,e2,e3⟩
theorem PG{c:Cx}(hs:Sr c){id l:Nat}{st st':HV}{fr:Jq}{ps:List Tmp}{asg bd:Code}{r r':Loop}(hd:c.D id)(ho:c.σ[id]?=some (.loop st fr ps asg bd))(hr:c.ρ id=.pointer (some ⟨l,0,none⟩))(hfl:fl<=id)
  (hh:c.w.heap[l]?=some (.loop r)) (h1:r'.params=ps.toArray) (h2:r'.assign=asg) (h3:r'.body=bd) (h4:aY c r'.tmps.toList fr) (h5:st'.fits r') :
  ∃c',c'.w=c.w.putObj l (.loop r')/\c'.σ=c.σ.set id (.loop st' fr ps asg bd)/\Sr c'/\Nx fl c c':=
 ⟨c.put (c.w.putObj l (.loop r')) id (c.ρ id) (.loop st' fr ps asg bd),rfl,rfl,Sr.wM hs hd ho trivial trivial Ej hh Ck ⟨hr,r',rfl,h1,h2,h3,h4,h5⟩,Nx.wM hs hd ho trivial trivial Ej hfl hh Ck⟩
theorem UN{c:Cx}(hs:Sr c){id l:Nat}{st:HV}{fr:Jq}{ps:List Tmp}{asg bd:Code}{r r':Loop}(hd:c.D id)(ho:c.σ[id]?=some (.loop st fr ps asg bd))(hr:c.ρ id=.pointer (some ⟨l,0,none⟩))(hfl:fl<=id)
  (hh:c.w.heap[l]?=some (.loop r)):∃c',c'.w=c.w.putObj l (.loop r')/\c'.σ=c.σ.set id .none/\Sr c'/\Nx fl c c':=
 ⟨c.put (c.w.putObj l (.loop r')) id (c.ρ id) .none,rfl,rfl,Sr.wM hs hd ho trivial trivial Ej hh Ck trivial,Nx.wM hs hd ho trivial trivial Ej hfl hh Ck⟩
theorem aIk{code:uZ}(h:UP P code){F:Fence}(hF:Open F P){id l:Nat}{args:Jq}{c:Cx}{vs:Js}{p:PD}{σ':Jp}(hc:K6 code fl id args c.σ=some (p,σ'))(hs:Sr c)(hX:Xw fl c)
  (hv:aY c vs args) (hd:c.D id) (hr:c.ρ id=.pointer (some ⟨l,0,none⟩)) :
  ∃g tmps asg bd,(Instr.yield l vs.toArray).run P c.w=.ok (.round l g tmps asg bd) c.w/\∀m,RoundIn F m P l g tmps asg bd c.w (FK fl c p σ'):=by
 unfold K6 at hc;split at hc
 .rename_i hfl;split at hc
  .rename_i fr pp asg bd hlo;split at hc
   .rename_i hlen;obtain⟨r,hh,hp,ha,hb,ht,hst⟩:=FJ hs hd hlo hr;have hvl:=hv.1;refine⟨_,_,_,_,run_yield hh (by simp[hp,hvl,hlen]),λm=>?_⟩;have hFl:Open (F.inRound l) P:=⟨hF.fn,hF.depth,hF.name,hF.alive⟩;refine roundIn_of_wpIn (hF.fn _) ?_;split at hc
    .rename_i aX ms1 σ1 hassign;have hfr:aY c ((r.params.zip vs.toArray).foldl (λtmps x=>tmps.setIfInBounds x.1 x.2) r.tmps).toList (FE fr pp args):=by
      rw[<-Array.foldl_toList,aBW,hp];simp only[Array.toList_zip];exact aBV pp vs args _ _ hv ht (by rw[hvl,hlen])
     have hno:mK c.σ[id]?:=by rw[hlo];trivial
     refine rK.wpIn ?_;rw[ha];refine h (a:={ tmps:=_,defers:=[] }) hFl hassign hs hX ⟨hfr,hs.kG⟩ trivial (⟨l,rfl,hd,hno,hr⟩:DB (F.inRound l) c (some id)) m _ λc1 a1 e1 hs1 l8 jC pJ=>?_
     simp only at e1 jC pJ;simp only[PX.K2,Exit.then];obtain⟨er,aBX⟩:=l8.oF id hd hno;have rL:=l8.bJ id hd;have nU:=er.trans hr;split at hc
     .rename_i kW HS HT HU hlo1;rw[<-e1]at hlo1;obtain⟨r1,hh1,sF,ha1,hb1,PH,aIl⟩:=FJ hs1 rL hlo1 nU;refine⟨_,run_beginRound hh1 aIl.1,?_⟩;obtain⟨c2,w2,e2,hs2,iN⟩:=PG (fl:=fl) hs1 (st':=.busy) (r':={ r1 with state:=.busy }) rL hlo1 nU hfl hh1 sF ha1 hb1 PH rfl;have UM:mK c2.σ[id]?:=(iN.oF id rL aBX).2;have zF:=(iN.oF id rL aBX).1.trans nU;have jE:=iN.bJ id rL;rw[<-w2];split at hc
      .rename_i x fr2 ms2 σ2 hbody;rw[e1.symm,<-e2]at hbody;have UL:=hX.next hs l8;refine rK.wpIn ?_;rw[hb];refine h (a:=a1) hFl hbody hs2 (UL.next hs1 iN) (FR.mono iN jC) (pJ.mono iN) (⟨l,rfl,jE,UM,zF⟩:DB (F.inRound l) c2 (some id)) m _ λc3 a3 e3 hs3 sE _ _=>?_
       simp only at e3;have HW:=sE.bJ id jE;have tP:=(sE.oF id jE UM).1.trans zF;have UQ:Nx fl c c3:=l8.trans (iN.trans sE);split at hc
       .rename_i PI K7 PJ PK hlo3;rw[<-e3]at hlo3;obtain⟨r3,HX,UR,US,hb3,UT,HY⟩:=FJ hs3 HW hlo3 tP;cases x with
        |normal=>
         simp only[yAb,yAc]at hc;obtain⟨rfl,rfl⟩:=hc;obtain⟨c4,w4,e4,DD,K8⟩:=PG (fl:=fl) hs3 (st':=.ready) (r':={ r3 with state:=.ready,pending:=none }) HW hlo3 tP hfl HX UR US hb3 UT ⟨rfl,rfl⟩;refine⟨_,_,run_endRound none HX,?_⟩;have:=Leaves.of (p:=.bool true) (v:=.bool true) DD (UQ.trans K8) (.bool true);rw[w4,e4,e3]at this;exact this
        |ret=>
         simp only[yAb,yAc]at hc;obtain⟨rfl,rfl⟩:=hc;obtain⟨c4,w4,e4,DD,K8⟩:=PG (fl:=fl) hs3 (st':=.done .ret) (r':={ r3 with state:=.done,pending:=some .ret }) HW hlo3 tP hfl HX UR US hb3 UT ⟨rfl,rfl⟩;refine⟨_,_,run_endRound (some .ret) HX,?_⟩;exact nk
        |exit k=>
         simp only[yAb,yAc]at hc;obtain⟨rfl,rfl⟩:=hc;obtain⟨c4,w4,e4,DD,K8⟩:=PG (fl:=fl) hs3 (st':=.done (.exit k)) (r':={ r3 with state:=.done,pending:=some (.exit k) }) HW hlo3 tP hfl HX UR US hb3 UT ⟨rfl,rfl⟩;refine⟨_,_,run_endRound (some (.exit k)) HX,?_⟩;exact nk
       .simp at hc
      .simp at hc
     .simp at hc
    .simp at hc
   .simp at hc
  .simp at hc
 .simp at hc
def aF(P:Program)(E:aE):Prop:=
 ∀ {F:Fence} {fl:Nat} {f:FuncId} {g:Jk} {args:Jq} {c:Cx} {vs:Js} {p:PD} {σ':Jp},Open F P->E f=some g->g fl args c.σ=some (p,σ')->Sr c->Xw fl c->aY c vs args ->
   (∃fn,P.funcs[f]?=some fn/\fn.body.isSome=true)/\∀m,CallsIn F m P f vs.toArray c.w (FK fl c p σ')
theorem aBR{E:aE}{code:uZ}(hE:aF P E)(h:UP P code){F:Fence}(hF:Open F P):Ok F P (tN P E code) where
 round:=λhc hs hX hv hd hr=>aIk h hF hc hs hX hv hd hr
 fn:=by
  intro fl f args c vs p σ' hc hs hX hv;simp only[tN]at hc;split at hc
  .rename_i g hg;exact hE hF hg hc hs hX hv
  .unfold FI at hc;split at hc
   .rename_i fn hfn;split at hc
    .rename_i bd hbd;refine⟨⟨fn,hfn,by simp[hbd]⟩,λm=>?_⟩;split at hc
     .rename_i r hr;have hF0:Open { F with round:=none } P:=⟨hF.fn,hF.depth,hF.name,hF.alive⟩;have key:CallsIn { F with round:=none } m P f vs.toArray c.w (FK fl c p σ'):=by
       refine callsIn_of_wp_marks hfn hbd (hF.fn f) (rK.wpIn ?_);have hfr:aY c (vs.toArray++Array.replicate (fn.ntmps-vs.toArray.size) undef).toList (args++List.replicate (fn.ntmps-args.length) (.aH [])):=by
        have e:(vs.toArray++Array.replicate (fn.ntmps-vs.toArray.size) undef).toList=vs++List.replicate (fn.ntmps-args.length) undef:=by simp[hv.1]
        rw[e];refine hv.append ⟨Ck,λi v d h1 h2=>?_⟩;rw[List.getElem?_replicate]at h1 h2;split at h1
        .simp only[yAb]at h1 h2;subst h1;rw[yAJ ‹_›]at h2;simp only[yAb]at h2;subst h2;exact VR.undef c
        .simp at h1
       refine h (a:={ tmps:=_,defers:=[] }) hF0 hr hs hX ⟨hfr,hs.kG⟩ trivial (rfl:DB { F with round:=none } c none) m _ λc1 a1 e1 hs1 l8 jC pJ=>?_
       have leave:(∀k,r.x≠.exit k)->LeavesInM { F with round:=none } m P fn a1.tmps (FK fl c p σ') a1.defers .returning c1.w:=by
        intro hx;unfold bQ at hc;have hc:(match BD fl r.ms r.σ with
          |some σ=>match y6 P r.fr σ fn.results.toList with
           |some ps=>some (FF ps,σ)
           |none=>none
          |none=>none)=some (p,σ'):=by
         split at hc
         .rename_i k hk;exact absurd hk (hx k)
         .exact hc
        split at hc
        .rename_i σ1 hdm;split at hc
         .rename_i qs hqs;simp only[yAb,yAc]at hc;obtain⟨rfl,rfl⟩:=hc;rw[<-e1]at hdm;refine aBU r.ms a1.defers c1 σ1 hdm hs1 pJ λc2 e2 hs2 iN=>?_
          rw[<-e2]at hqs;obtain⟨v,rv,hvv⟩:=aIm (P:=P) hs2 (FR.mono iN jC) hqs;refine⟨v,rv,?_⟩;have:=Leaves.of hs2 (l8.trans iN) hvv;rw[e2]at this;exact this
         .simp at hc
        .simp at hc
       cases hx:r.x with
       |normal=>exact leave (by rw[hx];simp)
       |ret=>exact leave (by rw[hx];simp)
       |exit k=>exfalso;unfold bQ at hc;rw[hx]at hc;simp at hc
      exact⟨key.1,key.2⟩
     .simp at hc
    .simp at hc
   .simp at hc
end
end
section
open Go.RowKit
section
variable{F:Fence}{P:Program}{call:cY}{fl:Nat}
theorem aBQ(hF:Open F P)(hc:Ok F P call){c1:Cx}{id l n:Nat}{a a':Act}{g:Operand}{gf:FuncId}{cap fr:Jq}{ms:List Nat}{q:PD}{σ2:Jp}{r:PO}{Q:Exit->Act->World->Prop}
  (hs1:Sr c1) (UL:Xw fl c1) (hd:c1.D id) (hρ:c1.ρ id=.pointer (some ⟨l,0,none⟩)) (hno:mK c1.σ[id]?) (hfl:fl<=id) (hg:VR c1 (a.eval g) (.func gf cap))
  (hcall:call fl (.inl gf) (.yield id::cap) c1.σ=some (q,σ2)) (hleave:KX id fr ms σ2=some r) (hf:FR c1 a' fr) (hm:MR c1 a'.defers ms)
  (hQ:∀mL qP,mL.σ=r.σ->Sr mL->Nx fl c1 mL->FR mL qP r.fr->MR mL qP.defers r.ms->Q r.x.K2 qP mL.w) :
  ∃(d:Deferred) (w₁':World) (f:FuncId) (args:Array Value) (w₂:World),(resolve a.eval (rangeCall g l) 0).run P c1.w=.ok d w₁'/\(∀f',Target.leads P w₁' d.target d.args=some f'->F.fn f') /\
   (invoke d.target d.args).run P w₁'=.ok (.enter f args) w₂/\(F.depth.isSome=true->1<=n)/\CallsIn F (n-1) P f args w₂ (rangePost F n P l Q a'):=by
 obtain⟨cs,e,hcs⟩:=hg.K3;have hy:VR c1 (.func (.yield l) #[] #[]) (.yield id):=.yield id l hd hno hρ;have hvs:aY c1 (.func (.yield l) #[] #[]::cs) (.yield id::cap):=⟨by simpa using hcs.1,λi u d hu hd'=>by
  cases i with
  |zero=>simp at hu hd';subst hu hd';exact hy
  |succ i=>exact hcs.2 i u d Hz (by simpa using hd')⟩
 obtain⟨⟨fn,hfn,hb⟩,hcalls⟩:=hc.fn hcall hs1 UL hvs;have hb':fn.body.isNone=false:=Hs;have hn:=hF.name gf fn hfn;refine⟨{ target:=.fn (.func gf) cs.toArray,args:=#[.func (.yield l) #[] #[]] },c1.w,gf,(.func (.yield l) #[] #[]::cs).toArray,c1.w,?_,λf' _=>hF.fn f',?_,hF.asks,yCE (hcalls _) λen w3 he=>?_⟩
 .simp only[rangeCall,resolve,e,Deferred.ofValue];simp[Act.eval]
 .have e2:(#[.func (.yield l) #[] #[]]++cs.toArray:Array Value)=(.func (.yield l) #[] #[]::cs).toArray:=by apply yCk;simp
  simp only[invoke,callFunc,yBb,run_program,hfn,hn,hb',yAx,yAN,yBl,yBg,e2]
 .cases en with
  |panicked ch=>exact he.elim
  |outgrown=>exact he.elim
  |returned v=>
   obtain⟨c2,rfl,e2,hs2,iN,_,_⟩:=he;have jE:=iN.bJ id hd;obtain⟨er,UM⟩:=iN.oF id hd hno;have oW:=er.trans hρ;unfold KX at hleave;rw[<-e2]at hleave;split at hleave
   .rename_i kW HS HT HU hlo;simp only[yAb]at hleave;subst hleave;obtain⟨r2,hh,_,_,_,_,hst⟩:=FJ hs2 jE hlo oW;obtain⟨c3,w3,e3,hs3,sE⟩:=UN (fl:=fl) (r':={ r2 with state:=.exhausted }) hs2 jE hlo oW hfl hh;refine⟨_,_,run_endLoop hh (by rw[hst.1];simp),?_⟩;rw[<-w3,hst.2];exact hQ c3 a' e3 hs3 (iN.trans sE) ((hf.mono iN).mono sE) ((hm.mono iN).mono sE)
   .rename_i kW HS HT HU hlo;simp only[yAb]at hleave;subst hleave;obtain⟨r2,hh,_,_,_,_,hst⟩:=FJ hs2 jE hlo oW;obtain⟨c3,w3,e3,hs3,sE⟩:=UN (fl:=fl) (r':={ r2 with state:=.exhausted }) hs2 jE hlo oW hfl hh;refine⟨_,_,run_endLoop hh (by rw[hst.1];simp),?_⟩;rw[<-w3,hst.2];exact wpIn_ret (hQ c3 a' e3 hs3 (iN.trans sE) ((hf.mono iN).mono sE) ((hm.mono iN).mono sE))
   .rename_i k kW HS HT HU hlo;simp only[yAb]at hleave;subst hleave;obtain⟨r2,hh,_,_,_,_,hst⟩:=FJ hs2 jE hlo oW;obtain⟨c3,w3,e3,hs3,sE⟩:=UN (fl:=fl) (r':={ r2 with state:=.exhausted }) hs2 jE hlo oW hfl hh;refine⟨_,_,run_endLoop hh (by rw[hst.1];simp),?_⟩;rw[<-w3,hst.2];exact wpIn_exit (hQ c3 a' e3 hs3 (iN.trans sE) ((hf.mono iN).mono sE) ((hm.mono iN).mono sE))
   .simp at hleave
theorem aIf(hF:Open F P)(hc:Ok F P call){rd:Option Nat}{gf:FuncId}{cap fr:Jq}{ps:Array Tmp}{assign body:Code}{ms:List Nat}{cx:Cx}{a:Act}{r:PO}{m:Nat}{Q:Exit->Act->World->Prop}{g:Operand}
  (h:K4 call rd gf cap ps.toList assign body fl fr ms cx.σ=some r) (hs:Sr cx) (hX:Xw fl cx) (hf:FR cx a fr) (hm:MR cx a.defers ms) (hr:DB F cx rd) (hg:VR cx (a.eval g) (.func gf cap))
  (hQ:∀mL qP,mL.σ=r.σ->Sr mL->Nx fl cx mL->FR mL qP r.fr->MR mL qP.defers r.ms->Q r.x.K2 qP mL.w):(Code.rangeFunc g ps assign body).wpIn F m P Q a cx.w:=by
 refine wpIn_rangeFunc λfn _=>?_
 unfold K4 at h;split at h
 .rename_i hfl;split at h
  ·
   split at h
   .rename_i q σ2 hcall;have hro:F.round=none:=hr;have g1:cx.w.grownBy (cx.w.alloc (.deferred (some []))) none:=zA _ _;have b1:∀b,bE (.pointer (some ⟨cx.w.heap.size,0,none⟩))=some b->cx.w.heap.size<=b/\b<(cx.w.alloc (.deferred (some []))).heap.size:=λb hb=>by simp[bE]at hb;subst hb;simp
    let c1:=cx.push (cx.w.alloc (.deferred (some []))) (.pointer (some ⟨cx.w.heap.size,0,none⟩)) .mark
    have hs1:Sr c1:=Sr.push hs g1 b1 ⟨_,rfl,yBW _ _⟩;have l8:Nx fl cx c1:=Nx.push hs g1 (λb hb=>(b1 b hb).1);have l1:c1.σ.length=cx.σ.length+1:=by simp[c1,Cx.push]
    let uY:Loop:={ state:=.ready,pending:=none,fn,tmps:=a.tmps,params:=ps,assign,body,defers:=cx.w.heap.size }
    have g2:c1.w.grownBy (c1.w.alloc (.loop uY)) none:=zA _ _;have DC:c1.w.heap.size=cx.w.heap.size+1:=by show(cx.w.alloc _).heap.size=_;simp
    have b2:∀b,bE (.pointer (some ⟨cx.w.heap.size+1,0,none⟩))=some b->c1.w.heap.size<=b/\b<(c1.w.alloc (.loop uY)).heap.size:=λb hb=>by simp[bE]at hb;subst hb;simp[DC]
    have hnew:(c1.w.alloc (.loop uY)).heap[cx.w.heap.size+1]?=some (.loop uY):=by rw[<-DC];exact yBW _ _
    let c2:=c1.push (c1.w.alloc (.loop uY)) (.pointer (some ⟨cx.w.heap.size+1,0,none⟩)) (.loop .ready fr ps.toList assign body)
    have hs2:Sr c2:=Sr.push hs1 g2 b2 ⟨_,_,rfl,hnew,by simp[uY],rfl,rfl,aY.mono l8 hf.1,⟨rfl,rfl⟩⟩;have iN:Nx fl c1 c2:=Nx.push hs1 g2 (λb hb=>(b2 b hb).1);have K5:=l8.trans iN;have bO:c2.σ=cx.σ++[.mark]++[.loop .ready fr ps.toList assign body]:=rfl;have pn:=iQ (c:=c1) (w:=c1.w.alloc (.loop uY)) (v:=.pointer (some ⟨cx.w.heap.size+1,0,none⟩)) (o:=.loop .ready fr ps.toList assign body);rw[l1]at pn;rw[<-bO]at hcall;obtain⟨d,w₁',f,args,w₂,h1,h2,h3,h4,h5⟩:=aBQ (n:=m) (a:=a) (a':={ a with defers:=[{ target:=.collected cx.w.heap.size,args:=#[] }]++a.defers }) (g:=g) (Q:=Q) hF hc hs2 (hX.next hs K5) pn.2.2 pn.2.1 (by rw[pn.1];trivial) Cj (hg.mono K5) hcall h (hf.mono K5)
     ⟨⟨_,rfl,iN.bJ _ (.inr rfl),by rw[wL (id:=cx.σ.length) hs1 (.inr rfl),iQ.1];trivial,(p7 hs1 (.inr rfl)).trans iQ.2.1⟩,hm.mono K5⟩
     (λmL qP e1 q1 q2 q3 q4=>hQ mL qP e1 q1 (K5.trans q2) q3 q4)
    refine⟨_,_,c2.w,d,w₁',f,args,w₂,?_,h1,h2,h3,h4,h5⟩;rw[hro];exact run_enterLoop_outer fn a.tmps ps assign body
   .exact ak
  ·
   rename_i id0;split at h
   .rename_i st0 kW HS HT HU hlo0;split at h
    .rename_i q σ2 hcall;obtain⟨l0,hro,UO,aVv,aIg⟩:=hr;obtain⟨r0,hh0,_⟩:=FJ hs UO hlo0 aIg
     let uY:Loop:={ state:=.ready,pending:=none,fn,tmps:=a.tmps,params:=ps,assign,body,defers:=r0.defers }
     have g2:cx.w.grownBy (cx.w.alloc (.loop uY)) none:=zA _ _;have b2:∀b,bE (.pointer (some ⟨cx.w.heap.size,0,none⟩))=some b->cx.w.heap.size<=b/\b<(cx.w.alloc (.loop uY)).heap.size:=λb hb=>by simp[bE]at hb;subst hb;simp
     let c2:=cx.push (cx.w.alloc (.loop uY)) (.pointer (some ⟨cx.w.heap.size,0,none⟩)) (.loop .ready fr ps.toList assign body)
     have hs2:Sr c2:=Sr.push hs g2 b2 ⟨_,_,rfl,yBW _ _,by simp[uY],rfl,rfl,hf.1,⟨rfl,rfl⟩⟩;have iN:Nx fl cx c2:=Nx.push hs g2 (λb hb=>(b2 b hb).1);have bO:c2.σ=cx.σ++[.loop .ready fr ps.toList assign body]:=rfl;have pn:=iQ (c:=cx) (w:=cx.w.alloc (.loop uY)) (v:=.pointer (some ⟨cx.w.heap.size,0,none⟩)) (o:=.loop .ready fr ps.toList assign body);rw[<-bO]at hcall;obtain⟨d,w₁',f,args,w₂,h1,h2,h3,h4,h5⟩:=aBQ (n:=m) (a:=a) (a':={ a with defers:=[]++a.defers }) (g:=g) (Q:=Q) hF hc hs2 (hX.next hs iN) pn.2.2 pn.2.1 (by rw[pn.1];trivial) hfl (hg.mono iN) hcall h (hf.mono iN)
      (hm.mono iN) (λmL qP e1 q1 q2 q3 q4=>hQ mL qP e1 q1 (iN.trans q2) q3 q4)
     refine⟨_,_,c2.w,d,w₁',f,args,w₂,?_,h1,h2,h3,h4,h5⟩;rw[hro];unfold Instr.enterLoop;simp only[yBb,run_getLoop hh0,run_newObj_alloc,Result.andThen,yBl];rfl
    .exact ak
   .exact ak
 .exact ak
end
theorem aIh{P:Program}{E:aE}(hE:aF P E)(hP:P.follows .mixedOrders=true):∀n,UP P (jU P E n):=by
 intro n
 induction n with
 |zero=>intro F rd c fl fr ms cx r a hF h;simp[jU]at h
 |succ n ih=>
  intro F rd c fl fr ms cx r a hF h hs hX hf hm hr m Q hQ;have hc:Ok F P (tN P E (jU P E n)):=aBR hE ih hF;unfold jU at h;split at h
  .simp only[yAb]at h;subst h;exact wpIn_skip (hQ cx a rfl hs (.refl _ _) hf hm)
  .split at h
   .rename_i id ops _ fr' σ' hseq;simp only[yAb]at h;subst h;refine wpIn_region ?_;unfold DA at hseq;rw[List.range_eq_range'];split at hseq
    .rename_i x hx;simp only[yAb]at hseq;subst hseq;have:=aBS (n:=m) (Q:=Q) hF hc ops.toList 0 Ck hs hX hf hx (λc' a' e1 q1 q2 q3 q4=>hQ c' a' e1 q1 q2 q3 (by rw[q4];exact hm.mono q2));exact cw
    .have:=aIi (n:=m) (Q:=Q) hF hc hs hX hf hseq (λc' a' e1 q1 q2 q3 q4=>hQ c' a' e1 q1 q2 q3 (by rw[q4];exact hm.mono q2));exact cw
   .exact ak
  .split at h
   .rename_i id ops _ fr' σ' hdr;simp only[yAb]at h;subst h;refine wpIn_region_any hP ?_;have hg:cx.w.grownBy cx.w.drew none:=grownBy_drew _;have nx:Nx fl cx (cx.at cx.w.drew):=Nx.grow hs hg;exact aIj (n:=m) (c0:=cx.at cx.w.drew) hF hc (Sr.grow hs hg) (hX.next hs nx) (hf.mono nx) hdr (λc' a' e1 q1 q2 q3 q4=>hQ c' a' e1 q1 (nx.trans q2) q3 (by rw[q4];exact(hm.mono nx).mono q2))
   .exact ak
  .rename_i x y;refine wpIn_seq ?_;split at h
   .rename_i aX ms1 σ1 hx;refine rK.wpIn (ih hF hx hs hX hf hm hr m _ λc1 a1 e1 hs1 l8 jC pJ=>?_);simp only at e1 jC pJ;rw[<-e1]at h;exact rK.wpIn (ih hF h hs1 (hX.next hs l8) jC pJ (hr.mono l8) m _ λc2 a2 e2 hs2 iN nO hm2=>hQ c2 a2 e2 hs2 (l8.trans iN) nO hm2)
   .exact gz
  .rename_i g x y;split at h
   .rename_i hg;exact wpIn_cond_true (eT hf hg).BC (rK.wpIn (ih hF h hs hX hf hm hr m Q hQ))
   .rename_i hg;exact wpIn_cond_false (eT hf hg).BC (rK.wpIn (ih hF h hs hX hf hm hr m Q hQ))
   .exact ak
  .rename_i id b;refine wpIn_block ?_;split at h
   .rename_i k aX ms1 σ1 hx;simp only[yAb]at h;subst h;refine rK.wpIn (ih hF hx hs hX hf hm hr m _ λc1 a1 e1 hs1 l8 jC pJ=>?_);have:=hQ c1 a1 e1 hs1 l8 jC pJ;simp only[PX.K2,Exit.inBlock]
    by_cases hk:k=id
    .simp only[hk,yAK]at this ⊢;exact this
    .simp only[hk,yAN]at this ⊢;exact this
   .rename_i hne;refine rK.wpIn (ih hF h hs hX hf hm hr m _ λc1 a1 e1 hs1 l8 jC pJ=>?_);have:=hQ c1 a1 e1 hs1 l8 jC pJ;obtain⟨x',aX,ms1,σ1⟩:=r;cases x' with
    |normal=>exact this
    |ret=>exact this
    |exit k=>exact absurd h (hne _ _ _ _)
  .rename_i b;show BF F m P b Q a cx.w
   refine BF.round ?_;split at h
   .rename_i aX ms1 σ1 hx;refine rK.wpIn (ih hF hx hs hX hf hm hr m _ λc1 a1 e1 hs1 l8 jC pJ=>?_);simp only at e1 jC pJ;rw[<-e1]at h;exact ih hF h hs1 (hX.next hs l8) jC pJ (hr.mono l8) m Q λc2 a2 e2 hs2 iN nO hm2=>hQ c2 a2 e2 hs2 (l8.trans iN) nO hm2
   .exact gz
  .rename_i g ps assign body;split at h
   .rename_i gf cap hg;exact aIf hF hc h hs hX hf hm hr (eT hf hg) hQ
   .exact ak
  .simp only[yAb]at h;subst h;exact wpIn_exit (hQ cx a rfl hs (.refl _ _) hf hm)
  .simp only[yAb]at h;subst h;exact wpIn_ret (hQ cx a rfl hs (.refl _ _) hf hm)
  .exact ak
theorem C5{P:Program}{E:aE}(hE:aF P E)(hP:P.follows .mixedOrders=true){F:Fence}(hF:Open F P)(n:Nat):Ok F P (fA P E n):=aBR hE (aIh hE hP n) hF
end
end Go.Kz
end
