/- Steps of the proof. -/
import Derived.Lib.AppendZerosOnto
import Derived.Test.YtnogdlnjafblaaaGreatDoorP1
import Derived.OrdersIn
set_option linter.all false
set_option maxHeartbeats 40000000
set_option maxRecDepth 100000
noncomputable section
namespace Go.Kz
section
open Go.RowKit
section
variable{P:Program}{c:Cx}{fl:Nat}
theorem OA(n:Nat):∀(k:Nat) (cs:List PD),(ET n k cs).length=k
 |0,_=>rfl
 |k+1,cs=>by simp[ET,OA n k]
theorem aDh(n:Nat):∀(k:Nat) (cs:List PD),k*n<=cs.length->(ET n k cs).flatMap PD.cells=cs.take (k*n)
 |0,_,_=>by simp[ET]
 |k+1,cs,h=>by
  have h':k*n+n<=cs.length:=by rw[yBl]at h;omega
  rw[ET,yBg,aDh n k (cs.drop n) xw];show cs.take n++(cs.drop n).take (k*n)=_
  rw[yBl,Nat.one_mul,yCk (k*n) n,List.take_add]
theorem aDi(n:Nat):∀(k:Nat) (cs:List PD),k*n<=cs.length->∀x∈ET n k cs,x.cells.length=n
 |0,_,_,x,hx=>by simp[ET]at hx
 |k+1,cs,h,x,hx=>by
  have h':k*n+n<=cs.length:=by rw[yBl]at h;omega
  rw[ET]at hx;rcases yAS.1 hx with rfl|hx
  .simp[PD.cells];omega
  .exact aDi n k (cs.drop n) xw x hx
theorem aHT(hs:Sr c){x:PD}{sz:Nat}{ys:Bw}(h:RJ c.σ x=some (sz,ys)){vx:Value}(hx:VR c vx x):∃B cap fly,vx=.slice B ys.length cap/\ys.length<=cap/\(∀y∈ys,y.cells.length=sz)/\fly.length=ys.length*sz/\(∀v∈fly,v.oneCell'=true) /\
  (∀(j:Nat) (v:Value),fly[j]?=some v->∃ad,B=some ad/\c.w.cell? (ad.add j)=some v)/\aJ c fly (ys.flatMap PD.cells):=by
 unfold RJ at h;split at h
 .rename_i jX ys0 tok;simp only[yAb,yAc]at h;obtain⟨rfl,rfl⟩:=h;obtain⟨A,cap,fly,rfl,a1,a2,a3,a4,a5,a6,a7,a8⟩:=hx.nW;refine⟨A,cap,fly,rfl,a1,a3,a4,a5,λj v hj=>?_,by rw[a4,OB _ a3],a7⟩;exact jr
 .rename_i id ver off n jX;split at h
  .rename_i e sz' fE cs hq;split at h
   .rename_i hc;obtain⟨rfl,rfl,hle⟩:=hc;simp only[yAb,yAc]at h;obtain⟨rfl,rfl⟩:=h;obtain⟨b,cap,rfl,hp,h1,h2⟩:=hx.MA;obtain⟨_,C,q2,q3⟩:=(hp.2 e _ _ cs hq).2 rfl;obtain⟨b',C',cur,e1,e2,e3,e4,e5,e6,e7,e8⟩:=hs.row id e _ _ cs hp.1 hq;rw[q2]at e1;simp only[yBH,yAb,yBD,yAW,yBI]at e1;obtain⟨rfl,rfl⟩:=e1;have hdl:n*sz'<=(cs.drop off).length:=xw;have hlen:(((cur.toList.take cs.length).drop off).take (n*sz')).length=n*sz':=xw;refine⟨some ⟨b,off,none⟩,cap,((cur.toList.take cs.length).drop off).take (n*sz'),by rw[OA],by rw[OA];exact h1,aDi _ _ _ hdl,by rw[hlen,OA],?_,?_,?_⟩
    .intro v hv;exact e8 v (yAy (yBN (yAy hv)))
    .intro j v hj;refine⟨_,rfl,?_⟩;rw[MB];simp only[World.cell?,e2];rw[yAv]at hj;split at hj
     .rw[yBC,yAv]at hj;split at hj
      .simpa using hj
      .cases hj
     .cases hj
    .rw[aDh _ _ _ hdl];exact e7.take_drop off (n*sz')
   .cases h
  .cases h
 .rename_i id off n jX;split at h
  .rename_i q hq;split at h
   .rename_i hle;simp only[yAb,yAc]at h;obtain⟨rfl,rfl⟩:=h;obtain⟨b,cap,rfl,hD,_,hr,h1,h2⟩:=hx.KF;obtain⟨b',cur,T,e1,e2,e3,e4⟩:=hs.box id q hD hq;rw[hr]at e1;simp only[yCl,yAb,yBD,yAW]at e1;subst e1;have hdl:n*jX<=(q.cells.drop off).length:=xw;have hcl:cur.toList.length=q.cells.length:=e3.1;have hlen:((cur.toList.drop off).take (n*jX)).length=n*jX:=by rw[yAt,yBe];omega
    refine⟨some ⟨b,off,none⟩,cap,(cur.toList.drop off).take (n*jX),by rw[OA],by rw[OA];exact h1,aDi _ _ _ hdl,by rw[hlen,OA],?_,?_,?_⟩
    .intro v hv;exact e4.1 v (yBN (yAy hv))
    .intro j v hj;refine⟨_,rfl,?_⟩;rw[MB];exact jy
    .rw[aDh _ _ _ hdl];exact e3.take_drop off (n*jX)
   .cases h
  .cases h
 .cases h
theorem aHU{zs:Ca}(h:∀v∈zs.toList,v.oneCell'=true)(h0:0<zs.size)(n:Nat):∀v∈(Builtin.zeroCells zs n).toList,v.oneCell'=true:=by
 intro v hv;simp only[Builtin.zeroCells,yCU,yCV,yAw]at hv;obtain⟨k,_,rfl⟩:=hv;have jY:k%zs.size<zs.size:=yBZ _ h0;apply h;simp[jY]
theorem aPN{w:World}{t ty e:TypeId}{i:TypeInfo}{z:Value}(hu:P.underlying t=some (.slice e))(hi:P.info? e=some i)(hz:i.zero=some z)(hzs:z.cells.size=i.size)(hpos:0<i.size)(hz1:∀v∈z.cells.toList,v.oneCell'=true)
  {A B:Option Addr} {n cap m c':Nat} {flx fly:Bz} (hA:A=none->n=0/\cap=0) (hlx:flx.length=n*i.size) (hx:∀(j:Nat) (v:Value),flx[j]?=some v->∃ad,A=some ad/\w.cell? (ad.add j)=some v)
  (hly:fly.length=m*i.size) (hy:∀(j:Nat) (v:Value),fly[j]?=some v->∃ad,B=some ad/\w.cell? (ad.add j)=some v) (OC:∀v∈flx,v.oneCell'=true) (h1y:∀v∈fly,v.oneCell'=true) (hm:0<m) (hcap:cap<n+m) (hmax:n+m<=maxLen) (hby:(n+m)*i.bytes<=140737488355328) :
  ∃C cur w',(Builtin.append_ #[t,t] ty #[.slice A n cap,.slice B m c']).run P w=.ok (.slice (some ⟨w.heap.size,0,none⟩) (n+m) C) w'/\w.grownBy w' none/\w'.heap[w.heap.size]?=some (.cells cur e (0,0))/\cur.size=C*i.size /\
   n+m<=C/\C<=maxLen/\(∀v∈cur.toList,v.oneCell'=true)/\∃rest,cur.toList=flx++fly++rest:=by
 have aDj:0<fly.length:=by rw[hly];exact yCW hm hpos
 obtain⟨bd,rfl,_⟩:=hy 0 fly[0] (by simp[aDj]);have hnews:∀(j:Nat) (u:Value),fly[j]?=some u->w.cell? (bd.add j)=some u:=λj u hj=>by
  obtain⟨ad,e',h9⟩:=hy j u hj;exact ir
 have fin:∀old,old<n+m->w.grownBy (w.drew.alloc (.cells (flx.toArray++fly.toArray++Builtin.zeroCells z.cells (grownCap w (n+m) old e-(n+m))) e)) none /\
   (w.drew.alloc (.cells (flx.toArray++fly.toArray++Builtin.zeroCells z.cells (grownCap w (n+m) old e-(n+m))) e)).heap[w.heap.size]?=some (.cells (flx.toArray++fly.toArray++Builtin.zeroCells z.cells (grownCap w (n+m) old e-(n+m))) e (0,0)) /\
   (flx.toArray++fly.toArray++Builtin.zeroCells z.cells (grownCap w (n+m) old e-(n+m))).size=grownCap w (n+m) old e*i.size/\n+m<=grownCap w (n+m) old e/\grownCap w (n+m) old e<=maxLen /\
   (∀v∈(flx.toArray++fly.toArray++Builtin.zeroCells z.cells (grownCap w (n+m) old e-(n+m))).toList,v.oneCell'=true)/\∃rest,(flx.toArray++fly.toArray++Builtin.zeroCells z.cells (grownCap w (n+m) old e-(n+m))).toList=flx++fly++rest:=by
  intro old ho;have hge:=yCX w (n+m) old e;have hcm:grownCap w (n+m) old e<=maxLen:=yCY w (n+m) old e hmax;refine⟨⟨rfl,rfl,rfl,wz,λk hk _=>yDn w.drew _ hk⟩,yBB w.drew _,?_,hge,hcm,?_,_,by simp only[yCz];rfl⟩
  .simp only[Array.size_append,yCA,size_zeroCells,hzs,hlx,hly,<-yBl]
   congr 1
   omega
  .intro v hv;simp only[yCz,yBn]at hv;rcases hv with(hv|hv)|hv
   .exact OC v hv
   .exact h1y v hv
   .exact aHU hz1 xb _ v hv
 cases A with
 |none=>
  obtain⟨rfl,rfl⟩:=hA rfl;have OD:flx=[]:=yAf Bn;subst OD;have hr:=run_append_nil (P:=P) w t ty e i z hu hi hz bd m c' fly hly hnews xb Aq (by have hb:=hby;simp only[yAp]at hb;omega);exact ng
 |some ad=>
  have holds:∀(j:Nat) (u:Value),flx[j]?=some u->w.cell? (ad.add j)=some u:=λj u hj=>by
   obtain⟨V2,e',h9⟩:=hx j u hj;exact ir
  have hr:=run_append_grow (P:=P) w t ty e i z hu hi hz ad n cap flx hlx holds bd m c' fly hly hnews hcap Aq (yDo hcap hby);exact⟨_,_,_,hr,fin cap hcap⟩
theorem aPO{w:World}{t ty e:TypeId}{i:TypeInfo}(hu:P.underlying t=some (.slice e))(hi:P.info? e=some i){b off n cap m c':Nat}{B:Option Addr}{fly:Bz}
  (hly:fly.length=m*i.size) (hy:∀(j:Nat) (v:Value),fly[j]?=some v->∃ad,B=some ad/\w.cell? (ad.add j)=some v) (hroom:n+m<=cap) :
  (Builtin.append_ #[t,t] ty #[.slice (some ⟨b,off,none⟩) n cap,.slice B m c']).run P w=Result.andThen ((storeCells ⟨b,off+n*i.size,none⟩ fly).run P w) (λ_ w'=>.ok (.slice (some ⟨b,off,none⟩) (n+m) cap) w'):=by
 have hf:(Builtin.firstCells i.size m (.slice B m c')).run P w=.ok fly.toArray w:=by
  cases B with
  |none=>
   have:fly=[]:=by
    cases fly with
    |nil=>rfl
    |cons x xs=>obtain⟨_,e',_⟩:=hy 0 x rfl;cases e'
   exact oq
  |some bd=>
   simp only[Builtin.firstCells];exact RL hly λj v hj=>by
    obtain⟨ad,e',h9⟩:=hy j v hj;exact ir
 simp[Builtin.append_,yAO hu,sizeOf,typeInfo,hi,Builtin.lenOf,hroom,hf,MB]
structure aHV (P:Program) (w:World) (t u ty e:TypeId) (i:TypeInfo) (vx:Value) (m:Nat) (fly:List Value):Prop where
 none_:m=0->∀(A:Option Addr) (n cap:Nat),n<=cap->(Builtin.append_ #[t,u] ty #[.slice A n cap,vx]).run P w=.ok (.slice A n cap) w
 grow:0<m->∀(A:Option Addr) (n cap:Nat) (flx:List Value),(A=none->n=0/\cap=0)->flx.length=n*i.size->(∀(j:Nat) (v:Value),flx[j]?=some v->∃ad,A=some ad/\w.cell? (ad.add j)=some v)->(∀v∈flx,v.oneCell'=true) ->
  cap<n+m->n+m<=maxLen->(n+m)*i.bytes<=140737488355328 ->
  ∃C cur w',(Builtin.append_ #[t,u] ty #[.slice A n cap,vx]).run P w=.ok (.slice (some ⟨w.heap.size,0,none⟩) (n+m) C) w'/\w.grownBy w' none/\w'.heap[w.heap.size]?=some (.cells cur e (0,0))/\cur.size=C*i.size /\
   n+m<=C/\C<=maxLen/\(∀v∈cur.toList,v.oneCell'=true)/\∃rest,cur.toList=flx++fly++rest
 room:∀(b off n cap:Nat),n+m<=cap->(Builtin.append_ #[t,u] ty #[.slice (some ⟨b,off,none⟩) n cap,vx]).run P w=Result.andThen ((storeCells ⟨b,off+n*i.size,none⟩ fly).run P w) (λ_ w'=>.ok (.slice (some ⟨b,off,none⟩) (n+m) cap) w')
theorem aHW(hs:Sr c){fn:Nat}{t u ty:TypeId}{s x p:PD}{σ':Bv}(h:mD P fn fl c.σ t s x=some (p,σ')){vs vx:Value}(hvs:VR c vs s)
  (hsrc:∀e i z sz' ys,P.underlying t=some (.slice e)->RJ c.σ x=some (sz',ys)->P.info? e=some i->i.zero=some z->z.cells.size=i.size->0<i.size->(∀v∈z.cells.toList,v.oneCell'=true)->(ys.length=0\/sz'=i.size) ->
   ∃fly:List Value,fly.length=ys.length*i.size/\(∀v∈fly,v.oneCell'=true)/\aJ c fly (ys.flatMap PD.cells)/\aHV P c.w t u ty e i vx ys.length fly) :
  ∃v w',(Builtin.append_ #[t,u] ty #[vs,vx]).run P c.w=.ok v w'/\Leaves fl c p σ' v w':=by
 unfold mD at h;split at h
 rotate_left
 .cases h
 split at h
 rotate_left
 .cases h
 rename_i e sz' ys hu hw;split at h
 rotate_left
 .cases h
 rename_i i hi;split at h
 rotate_left
 .cases h
 rename_i z hz;split at h
 rotate_left
 .cases h
 rename_i hc;obtain⟨OE,hpos,hzs,hz1⟩:=hc;have hz1:∀v∈z.cells.toList,v.oneCell'=true:=λv hv=>yAn.1 hz1 v hv
 obtain⟨fly,hly,b4,b6,hS⟩:=hsrc e i z sz' ys hu hw hi hz hzs hpos hz1 OE;split at h
 ·
  rename_i sz xs tok;split at h
  rotate_left
  .cases h
  rename_i hc;obtain⟨hsz,hmax,hby,htok⟩:=hc;obtain⟨A,cap,flx,rfl,a1,a2,a3,a4,a5,a6,a7,a8⟩:=hvs.nW;have hcells:∀(j:Nat) (v:Value),flx[j]?=some v->∃ad,A=some ad/\c.w.cell? (ad.add j)=some v:=λj v hj=>by
   exact jr
  split at h
  .rename_i h0;simp only[yAb,yAc]at h;obtain⟨rfl,rfl⟩:=h;exact⟨.slice A xs.length cap,c.w,hS.none_ h0 A xs.length cap a1,c,rfl,rfl,hs,.refl _ _,hvs,λ_ h=>.inl h⟩
  .rename_i h0;simp only[yAb,yAc]at h;obtain⟨rfl,rfl⟩:=h;have hcapn:xs.length=cap:=by
    cases tok<;>first|(simp[Tok.fresh]at htok;done)|(simp only[pJ]at a8;omega)
   have hlx:flx.length=xs.length*i.size:=by
    exact qy
   have hA:A=none->xs.length=0/\cap=0:=by
    rintro rfl
    have hx0:xs.length=0:=by
     rcases yDH xs.length with h0|h0
     .exact h0
     .have:0<flx.length:=by rw[hlx];exact yCW h0 hpos
      exact qx
    exact⟨hx0,xb⟩
   obtain⟨C,cur,w',r,g1,g2,g3,g4,g5,g6,rest,g7⟩:=hS.grow (yCu h0) A xs.length cap flx hA hlx hcells a5 xb hmax hby;have hcl:((xs++ys).flatMap PD.cells).length=(flx++fly).length:=by
    rw[yCv,yAa,yAa,OB xs a3,b6.1,a4]
   have hvr:aJ c (cur.toList.take ((xs++ys).flatMap PD.cells).length) ((xs++ys).flatMap PD.cells):=by
    rw[hcl,g7,yCB,yCv];exact aJ.append ⟨by rw[OB xs a3,a4],a7⟩ b6
   have hcs:((xs++ys).flatMap PD.cells).length<=cur.size:=by
    rw[hcl];have:=yAP List.length g7;simp at this ⊢;omega
   have hbk:∀b,aV (.slice (some ⟨c.w.heap.size,0,none⟩) 0 C)=some b->c.w.heap.size<=b:=λb hb=>zk
   refine⟨_,w',r,c.push w' (.slice (some ⟨c.w.heap.size,0,none⟩) 0 C) (.row e i.size 0 ((xs++ys).flatMap PD.cells)),rfl,rfl,?_,Nx.push hs g1 hbk,?_,?_⟩
   .refine Sr.push hs g1 (λb hb=>⟨hbk b hb,?_⟩) ⟨_,C,cur,rfl,g2,g3,g5,hpos,hcs,hvr,g6⟩;simp[aV]at hb;subst hb;exact fM g2
   .refine .fF _ _ _ _ _ _ _ ⟨.inr rfl,λe' jX v' cs hq=>?_⟩ g4 g5;exact jd
   .exact ay
 ·
  rename_i id ver off n sz;split at h
  rotate_left
  .cases h
  rename_i hc;obtain⟨hfl,rfl,hmax,hby⟩:=hc;split at h
  rotate_left
  .cases h
  rename_i e' jX fE cs hq;split at h
  rotate_left
  .cases h
  rename_i hc;obtain⟨rfl,rfl,rfl⟩:=hc;obtain⟨b,cap,rfl,hp,h1,h2⟩:=hvs.MA;obtain⟨_,C,hr,hCo⟩:=(hp.2 _ _ _ cs hq).2 rfl;have hbase:=hs.row id _ _ _ cs hp.1 hq;obtain⟨b',C',cur,e1,e2,e3,e4,e5,e6,e7,e8⟩:=hbase;rw[hr]at e1;simp only[yBH,yAb,yBD,yAW,yBI]at e1;obtain⟨rfl,rfl⟩:=e1;split at h
  ·
   rename_i hin;simp only[yAb,yAc]at h;obtain⟨rfl,rfl⟩:=h;have hroom:n+ys.length<=cap:=by
    have:(n+ys.length)*i.size<=cap*i.size:=xb;exact Nat.le_of_mul_le_mul_right this hpos
   obtain⟨w',hst,hs',hn'⟩:=aAs (P:=P) (fl:=fl) hs hp.1 hq hr b6 b4 (off:=off+n*i.size) (by rw[<-b6.1,hly];rw[yBl]at hin;omega) hfl;refine⟨.slice (some ⟨b,off,none⟩) (n+ys.length) cap,w',?_,_,rfl,rfl,hs',hn',?_,λi hi=>.inl hi⟩
   .rw[hS.room b off n cap hroom,hst];rfl
   .exact .fF _ _ _ _ _ _ _ (hp.mJ hn'.toV) hroom h2
  .split at h
   rotate_left
   .cases h
   rename_i hc;obtain⟨rfl,hn⟩:=hc;simp only[yAb,yAc]at h;obtain⟨rfl,rfl⟩:=h;have hcapC:cap=C:=Nat.eq_of_mul_eq_mul_right hpos xb;subst hcapC;have hyp:ys.length≠0:=λh0=>by
    rename_i hin;rw[h0,yBU,yAp]at hin;omega
   by_cases hroom:n+ys.length<=cap
   .have hfit:cs.length+fly.length<=cur.size:=by
     rw[e3,hly,<-hn,<-yBl];exact yBO _ hroom
    have hst:=yDp (P:=P) b (0+n*i.size) _ fly 0 cur c.w e2 xb b4;simp only[yBU,yAp]at hst;have hrun:=hS.room b 0 n cap hroom;rw[yAp,hst]at hrun;have hk:∀k,k<c.w.heap.size->aV (c.ρ id)≠some k->(c.w.setRow b (List.take (n*i.size) cur.toList++fly++List.drop (n*i.size+fly.length) cur.toList).toArray).heap[k]?=c.w.heap[k]?:=
     λk _ hk=>yCf _ _ _ _ (λh=>hk (by rw[hr,h];rfl))
    have hcr:(List.take (n*i.size) cur.toList++fly++List.drop (n*i.size+fly.length) cur.toList).length=cur.size:=xw;have hall:∃b0 C0 EU,c.ρ id=.slice (some ⟨b0,0,none⟩) 0 C0/\(c.w.setRow b (List.take (n*i.size) cur.toList++fly++List.drop (n*i.size+fly.length) cur.toList).toArray).heap[b0]?=some (.cells EU e' (0,0))/\EU.size=C0*i.size/\C0<=maxLen/\0<i.size /\
      (cs++ys.flatMap PD.cells).length<=EU.size/\aJ c (EU.toList.take (cs++ys.flatMap PD.cells).length) (cs++ys.flatMap PD.cells)/\∀v∈EU.toList,v.oneCell'=true:=by
     refine⟨b,cap,_,hr,yCC _ _ cur _ e' (0,0) e2,by simpa using hcr.trans e3,e4,hpos,?_,?_,V3 e8 b4 _ _⟩
     .rw[yAa,<-b6.1,yCA,hcr];exact hfit
     .show aJ c (List.take _ (List.take (n*i.size) cur.toList++fly++List.drop (n*i.size+fly.length) cur.toList)) _
      rw[show(cs++ys.flatMap PD.cells).length=(List.take (n*i.size) cur.toList++fly).length by
       rw[yAa,yAa,b6.1,yAt,hn];have:cs.length<=cur.toList.length:=by simpa using e6
       omega]
      rw[yCB,hn];exact e7.append b6
    refine⟨.slice (some ⟨b,0,none⟩) (n+ys.length) cap,_,hrun,c.put _ id (c.ρ id) (.row e' i.size (fE+1) (cs++ys.flatMap PD.cells)),rfl,rfl,Sr.putRow hs hp.1 hq (Nat.le_succ _) (λh=>rfl) ⟨rfl,rfl,rfl,wz⟩ hk (.inl rfl) hall,
     Nx.putRow hs hp.1 hq hfl (Nat.le_succ _) (λh=>rfl) ⟨rfl,rfl,rfl,wz⟩ hk (.inl rfl),?_,λi hi=>.inl hi⟩
    refine .fF _ _ _ _ _ _ _ ⟨hp.1,λe0 J9 v1 RM hq1=>?_⟩ hroom h2;rw[eL (hs.aW id hp.1)]at hq1;simp only[yAb,U.row.injEq]at hq1;obtain⟨rfl,rfl,rfl,rfl⟩:=hq1;exact⟨yAk _,λ_=>⟨rfl,cap,by rw[mK];exact hr,wz⟩⟩
   .have hcut:(cur.toList.take cs.length).length=n*i.size:=by
     rw[yAt,<-hn];have:n*i.size<=cur.toList.length:=by rw[hn];simpa using e6
     omega
    obtain⟨C2,aPP,w',r,g1,g2,g3,g4,g5,g6,rest,g7⟩:=hS.grow (yCu hyp) (some ⟨b,0,none⟩) n cap (cur.toList.take cs.length) (λh=>xz) hcut (λj v hj=>by
      refine⟨_,rfl,?_⟩;rw[MB];simp only[World.cell?,e2];rw[yAv]at hj;split at hj
      .simpa using hj
      .cases hj) (λv hv=>e8 v (yAy hv)) xb hmax hby
    have hbk:∀b0,aV (.slice (some ⟨c.w.heap.size,0,none⟩) 0 C2)=some b0->c.w.heap.size<=b0:=λb hb=>zk
    have hlen:(cs++ys.flatMap PD.cells).length=(cur.toList.take cs.length++fly).length:=by rw[yAa,yAa,<-b6.1,hcut,hn]
    have hall:∃b0 C0 EU,Value.slice (some ⟨c.w.heap.size,0,none⟩) 0 C2=.slice (some ⟨b0,0,none⟩) 0 C0/\w'.heap[b0]?=some (.cells EU e' (0,0))/\EU.size=C0*i.size/\C0<=maxLen/\0<i.size /\
      (cs++ys.flatMap PD.cells).length<=EU.size/\aJ c (EU.toList.take (cs++ys.flatMap PD.cells).length) (cs++ys.flatMap PD.cells)/\∀v∈EU.toList,v.oneCell'=true:=by
     refine⟨c.w.heap.size,C2,aPP,rfl,g2,g3,g5,hpos,?_,?_,g6⟩
     .rw[hlen];have:=yAP List.length g7;simp only[yCb,yAa]at this ⊢;omega
     .rw[hlen,g7,yCB];exact e7.append b6
    have hk:∀k,k<c.w.heap.size->aV (c.ρ id)≠some k->w'.heap[k]?=c.w.heap[k]?:=λk hk _=>g1.block k hk wz
    have h0:w'.os=c.w.os/\w'.tape=c.w.tape/\w'.output=c.w.output/\c.w.heap.size<=w'.heap.size:=⟨g1.os,g1.tape,g1.output,g1.size⟩;refine⟨_,w',r,c.put w' id (.slice (some ⟨c.w.heap.size,0,none⟩) 0 C2) (.row e' i.size (fE+1) (cs++ys.flatMap PD.cells)),rfl,rfl,Sr.putRow hs hp.1 hq (Nat.le_succ _) (λh=>xb) h0 hk (.inr hbk) hall,
     Nx.putRow hs hp.1 hq hfl (Nat.le_succ _) (λh=>xb) h0 hk (.inr hbk),?_,λi hi=>.inl hi⟩
    refine .fF _ _ _ _ _ _ _ ⟨hp.1,λe0 J9 v1 RM hq1=>?_⟩ g4 g5;rw[eL (hs.aW id hp.1)]at hq1;simp only[yAb,U.row.injEq]at hq1;obtain⟨rfl,rfl,rfl,rfl⟩:=hq1;exact⟨yAk _,λ_=>⟨rfl,C2,mK,wz⟩⟩
 .cases h
theorem aPG(hs:Sr c){fn:Nat}{t:TypeId}{s x p:PD}{σ':Bv}(h:mD P fn fl c.σ t s x=some (p,σ')){vs vx:Value}(hvs:VR c vs s)(hvx:VR c vx x)(ty:TypeId) :
  ∃v w',(Builtin.append_ #[t,t] ty #[vs,vx]).run P c.w=.ok v w'/\Leaves fl c p σ' v w':=by
 refine aHW hs h hvs λe i z sz' ys hu hw hi hz hzs hpos hz1 OE=>?_
 obtain⟨B,cx,fly,rfl,b1,b2,b3,b4,b5,b6⟩:=aHT hs hw hvx;have hly:fly.length=ys.length*i.size:=by
  rcases OE with h0|h0
  .rw[b3,h0];simp
  .rw[b3,h0]
 refine⟨fly,hly,b4,b6,λh0 A n cap hn=>?_,λhm A n cap flx hA hlx hx OC hcap hmax hby=>aPN hu hi hz hzs hpos hz1 hA hlx hx hly b5 OC b4 hm hcap hmax hby,λb off n cap hroom=>aPO hu hi hly b5 hroom⟩;have hfy:fly=[]:=yAf (by rw[hly,h0];simp);subst hfy;have hfy:(Builtin.firstCells i.size 0 (.slice B 0 cx)).run P c.w=.ok #[] c.w:=by
  cases B<;>simp[Builtin.firstCells,loadCells,loadCellsFrom]
 rw[h0];exact oh
theorem aPQ{w:World}{t u ty e:TypeId}{i:TypeInfo}(hu:P.underlying t=some (.slice e))(hs:P.underlying u=some .string)(hi:P.info? e=some i)(hz:i.zero=some (.int .u8 0))(hsz:i.size=1)(hby:i.bytes=1)(l:List UInt8) :
  aHV P w t u ty e i (.string ⟨l.toArray⟩) l.length (l.map λb=>.int .u8 b.toNat):=by
 have hsl:(ByteArray.mk l.toArray).size=l.length:=zd;have hcl:Lib.strCells ⟨l.toArray⟩=l.map λb=>Value.int .u8 b.toNat:=by simp[Lib.strCells]
 have hone:∀v∈l.map (λb=>Value.int .u8 b.toNat),v.oneCell'=true:=λv hv=>by
  exact ja
 have hz0:∀v∈(Value.int IntKind.u8 0).cells.toList,v.oneCell'=true:=λv hv=>by
  have:v=.int .u8 0:=by simpa [Value.cells]using hv
  rw[this];rfl
 refine⟨λh0 A n cap hn=>(aHX hu hs hi hz hsz hby l).none_ h0 A n cap hn,λhm A n cap flx hA hlx hx OC hcap hmax hb=>?_,λb off n cap hroom=>?_⟩
 .have fin:∀old,old<n+l.length->w.grownBy (w.drew.alloc (.cells (flx.toArray++(l.map λb=>Value.int .u8 b.toNat).toArray++Builtin.zeroCells (Value.int .u8 0).cells (grownCap w (n+l.length) old e-(n+l.length))) e)) none /\
    (w.drew.alloc (.cells (flx.toArray++(l.map λb=>Value.int .u8 b.toNat).toArray++Builtin.zeroCells (Value.int .u8 0).cells (grownCap w (n+l.length) old e-(n+l.length))) e)).heap[w.heap.size]?=some (.cells (flx.toArray++(l.map λb=>Value.int .u8 b.toNat).toArray++Builtin.zeroCells (Value.int .u8 0).cells (grownCap w (n+l.length) old e-(n+l.length))) e (0,0)) /\
    (flx.toArray++(l.map λb=>Value.int .u8 b.toNat).toArray++Builtin.zeroCells (Value.int .u8 0).cells (grownCap w (n+l.length) old e-(n+l.length))).size=grownCap w (n+l.length) old e*i.size/\n+l.length<=grownCap w (n+l.length) old e/\grownCap w (n+l.length) old e<=maxLen /\
    (∀v∈(flx.toArray++(l.map λb=>Value.int .u8 b.toNat).toArray++Builtin.zeroCells (Value.int .u8 0).cells (grownCap w (n+l.length) old e-(n+l.length))).toList,v.oneCell'=true)/\∃rest,(flx.toArray++(l.map λb=>Value.int .u8 b.toNat).toArray++Builtin.zeroCells (Value.int .u8 0).cells (grownCap w (n+l.length) old e-(n+l.length))).toList=flx++(l.map λb=>Value.int .u8 b.toNat)++rest:=by
   intro old ho;have hge:=yCX w (n+l.length) old e;have hcm:grownCap w (n+l.length) old e<=maxLen:=yCY w (n+l.length) old e hmax;have hz1:(Value.int IntKind.u8 0).cells.size=1:=rfl;refine⟨⟨rfl,rfl,rfl,wz,λk hk _=>yDn w.drew _ hk⟩,yBB w.drew _,?_,hge,hcm,?_,_,by simp only[yCz];rfl⟩
   .rw[hsz]at hlx ⊢;simp only[Array.size_append,yCA,size_zeroCells,hz1,hlx,yAe];omega
   .intro v hv;simp only[yCz,yBn]at hv;rcases hv with(hv|hv)|hv
    .exact OC v hv
    .exact hone v hv
    .exact aHU hz0 xl _ v hv
  cases A with
  |none=>
   obtain⟨rfl,rfl⟩:=hA rfl;have OD:flx=[]:=yAf Bn;subst OD;have hr:=run_append_nil_string (P:=P) w t u ty e i (.int .u8 0) hu hs hi hz ⟨l.toArray⟩ (by rw[hsl];omega) zn (by rw[hby,hsl];rw[hby]at hb;omega);have e1:((ByteArray.mk l.toArray).data.map λb=>Value.int .u8 b.toNat)=(l.map λb=>Value.int .u8 b.toNat).toArray:=wz;rw[hsl,e1]at hr;exact ng
  |some ad=>
   have holds:∀(j:Nat) (u:Value),flx[j]?=some u->w.cell? (ad.add j)=some u:=λj u hj=>by
    obtain⟨V2,e',h9⟩:=hx j u hj;exact ir
   have hr:=Lib.run_append_grow_string (P:=P) w t u ty e i (.int .u8 0) hu hs hi hz ad n cap flx hlx holds ⟨l.toArray⟩ xb zn (by rw[hby,hsl];exact yDo xb (by rw[hby]at hb;omega));rw[hsl,hcl]at hr;exact⟨_,_,_,hr,fin cap hcap⟩
 .have hf:=Lib.run_firstCells_string (P:=P) w i.size ⟨l.toArray⟩;rw[hsl,hcl]at hf;simp[Builtin.append_,yAO hu,yAO hs,sizeOf,typeInfo,hi,Builtin.lenOf,hsl,hroom,hf,MB]
theorem aPI(hs:Sr c){fn:Nat}{t u:TypeId}{s p:PD}{l:Bx}{σ':Bv}(hst:P.underlying u=some .string)(hb:vM P t=true)(h:mD P fn fl c.σ t s (HW l)=some (p,σ')){vs:Value}(hvs:VR c vs s)(ty:TypeId) :
  ∃v w',(Builtin.append_ #[t,u] ty #[vs,.string ⟨l.toArray⟩]).run P c.w=.ok v w'/\Leaves fl c p σ' v w':=by
 refine aHW hs h hvs λe i z sz' ys hu hw hi hz hzs hpos hz1 OE=>?_
 simp only[HW,RJ,yAb,yAc]at hw;obtain⟨_,rfl⟩:=hw;simp only[vM,hu,hi,hz]at hb;split at hb
 rotate_left
 .cases hb
 rename_i heq;simp only[yAb]at heq;subst heq;simp only[yAr,yBA]at hb;refine⟨l.map λb=>.int .u8 b.toNat,by simp[hb.1],λv hv=>?_,?_,?_⟩
 .exact ja
 .rw[V4];refine⟨wz,λj v d h1 h2=>?_⟩;exact ic
 .rw[yAe];exact aPQ hu hst hi hz hb.1 hb.2 l
theorem aPR(n:Nat):(Builtin.zeroCells #[Value.int .u8 0] n).toList=List.replicate n (Value.int .u8 0):=by
 refine List.ext_getElem (by simp[Builtin.zeroCells]) λi h1 h2=>?_
 simp[Builtin.zeroCells,Nat.mod_one]
theorem aPK(hs:Sr c){n:Nat}{t u:TypeId}{s p:PD}{m:Int}{σ':Bv}(hst:P.underlying u=some (.int .i64))(h:LY P n c.σ t s m=some (p,σ')){vs:Value}(hvs:VR c vs s)(ty:TypeId) :
  ∃v w',(Builtin.append_ #[t,u] ty #[vs,.int .i64 m]).run P c.w=.ok v w'/\Leaves fl c p σ' v w':=by
 unfold LY at h;split at h
 rotate_left
 .cases h
 rename_i e sz hu;split at h
 rotate_left
 .cases h
 rename_i hc;obtain⟨hb,_,hm0,iO⟩:=hc;simp only[yAb,yAc]at h;obtain⟨rfl,rfl⟩:=h;obtain⟨k,rfl⟩:∃k:Nat,m=k:=⟨m.toNat,xb⟩;rw[yBq];have hk:0<k:=xb;obtain⟨A,cap,bU,rfl,a1,a2,a3,a4,a5,a6,a7,a8⟩:=hvs.nW;have hcap:cap=0:=by simp only[pJ,yAL]at a8;omega
 subst hcap;unfold vM at hb;rw[hu]at hb;simp only at hb;split at hb
 rotate_left
 .cases hb
 rename_i i hi;split at hb
 rotate_left
 .cases hb
 rename_i hz;simp only[yAr,yBA]at hb;obtain⟨hsz,hby⟩:=hb;have hr:=Lib.run_append_grow_zeros (P:=P) c.w t u ty e i (.int .u8 0) .i64 .i64 hu hst hi hz A 0 0 [] (by cases A<;>simp[Builtin.firstCells,loadCells,loadCellsFrom]) k hk xb xb xb (by rw[hby];omega) (by rw[hby];exact yDo xb xb);obtain⟨C,hC⟩:=gn (grownCap c.w (0+k) 0 e);have hge:k<=C:=by have:=yCX c.w (0+k) 0 e;omega
 have hcm:C<=maxLen:=by rw[<-hC];exact yCY c.w (0+k) 0 e zx
 rw[hC,yAp]at hr;have hzc:(Value.int IntKind.u8 0).cells=#[Value.int .u8 0]:=rfl;rw[hzc]at hr;obtain⟨cur,hcur⟩:=gn ((([]:List Value).toArray++Builtin.zeroCells #[Value.int .u8 0] k++Builtin.zeroCells #[Value.int .u8 0] (C-k)));rw[hcur]at hr;have hl:cur.toList=List.replicate k (Value.int .u8 0)++List.replicate (C-k) (Value.int .u8 0):=by
  rw[<-hcur];simp only[yCz,aPR,yAQ]
 have hcs:cur.size=C*1:=by
  have:=yAP List.length hl;simp only[yCb,yAa,yCZ]at this;omega
 have h1:∀v∈cur.toList,v.oneCell'=true:=λv hv=>by
  rw[hl,yBn]at hv;rcases hv with hv|hv<;>rw[yDI hv]<;>rfl
 have lD:c.w.grownBy (c.w.drew.alloc (.cells cur e)) none:=⟨rfl,rfl,rfl,wz,λk hk _=>yDn c.w.drew _ hk⟩;have dX:(c.w.drew.alloc (.cells cur e)).heap[c.w.heap.size]?=some (.cells cur e (0,0)):=yBB c.w.drew _;have hbk:∀b,aV (.slice (some ⟨c.w.heap.size,0,none⟩) 0 C)=some b->c.w.heap.size<=b:=λb hb=>zk
 have hvr:aJ c (cur.toList.take (List.replicate k (PD.int .u8 0)).length) (List.replicate k (PD.int .u8 0)):=by
  rw[yCZ,hl,yCD (yCZ ..)];refine⟨wz,λi v d h1 h2=>?_⟩;rw[yDI (yAE h1),yDI (yAE h2)];exact .int _ _
 refine⟨_,_,hr,c.push _ (.slice (some ⟨c.w.heap.size,0,none⟩) 0 C) (.row e 1 0 (List.replicate k (.int .u8 0))),rfl,rfl,?_,Nx.push hs lD hbk,?_,?_⟩
 .refine Sr.push hs lD (λb hb=>⟨hbk b hb,?_⟩) ⟨_,C,cur,rfl,dX,hcs,hcm,xb,by rw[yCZ];omega,hvr,h1⟩;simp[aV]at hb;subst hb;exact fM dX
 .refine .fF _ _ _ _ _ _ _ ⟨.inr rfl,λe' jX v' cs hq=>?_⟩ xb hcm;exact jd
 .exact ay
theorem aPB(hs:Sr c){t:TypeId}{s:PD}{σ':Bv}(h:aDk P fl c.σ t s=some σ'){vs:Value}(hvs:VR c vs s)(ty:TypeId) :
  ∃v w',(Builtin.clear_ #[t] ty #[vs]).run P c.w=.ok v w'/\Leaves fl c (.aK []) σ' v w':=by
 unfold aDk at h;split at h
 rotate_left
 .cases h
 rename_i e hu;split at h
 .simp only[yAb]at h;subst h;obtain⟨A,cap,flx,rfl,_⟩:=hvs.nW;refine⟨.tuple #[],c.w,?_,c,rfl,rfl,hs,.refl _ _,.aK [] [] rfl wz,λ_ h=>.inl h⟩;cases A<;>simp[Builtin.clear_,yAO hu]
 .rename_i id ver off n sz;split at h
  rotate_left
  .cases h
  rename_i e' jX fE cs m z hq hm hz;split at h
  rotate_left
  .cases h
  rename_i hc;obtain⟨hfl,rfl,rfl,rfl,hzl,hzp,hle,hpos⟩:=hc;simp only[yAb]at h;subst h;obtain⟨b,cap,rfl,hp,h1,h2⟩:=hvs.MA;obtain⟨_,C,hr,hCo⟩:=(hp.2 _ _ _ cs hq).2 rfl;obtain⟨zv,i,hi,hzv,hzr⟩:=L5 (c:=c) hz;have hcv:=aHY (c:=c) hzr hzl hpos n;have CX:=aHZ (c:=c) hzr hzl hpos hzp n;have hzs:zv.cells.size=m:=by have:=hzr.cells.1;simp at this;omega
  have hzc:madeCells zv.cells (n*m)=Builtin.zeroCells zv.cells n:=by rw[<-hzs];rfl
  rw[hzc]at hcv CX;obtain⟨w',hst,hs',hn'⟩:=aAs (P:=P) (fl:=fl) hs hp.1 hq hr hcv CX (off:=off) (by rw[aH0];exact hle) hfl;have OF:(zeroValue e).run P c.w=.ok zv c.w:=za
  by_cases h0:n=0
  .subst h0;refine⟨.tuple #[],c.w,by simp[Builtin.clear_,yAO hu],c,rfl,?_,hs,.refl _ _,.aK [] [] rfl wz,λ_ h=>.inl h⟩;have e1:CY z m 0=[]:=by simp[CY]
   have e2:iM cs off []=cs:=by simp[iM]
   rw[e1,e2];refine yBT λj=>?_
   rw[yCs];split
   .rename_i hj;subst hj;rw[yAJ (yA.1 hq).1,hq]
   .rfl
  .refine⟨.tuple #[],w',?_,_,rfl,rfl,hs',hn',.aK [] [] rfl wz,λi hi=>.inl hi⟩;obtain⟨n,rfl⟩:∃k,n=k+1:=⟨n-1,xb⟩;simp[Builtin.clear_,yAO hu,OF,hst]
 .cases h
theorem aPS(hs:Sr c){id:Nat}{q q':PD}(hd:c.D id)(hq:c.σ[id]?=some (.box q)){b:Nat}(hr:c.ρ id=.pointer (some ⟨b,0,none⟩)){vs:Bz}{ws:Bw}(hv:aJ c vs ws)
  (hw:ws.all PD.plain=true) {off:Nat} (mY:q.setCells off ws=some q') (hfl:fl<=id) :
  ∃w',(storeCells ⟨b,off,none⟩ vs).run P c.w=.ok () w'/\Sr (c.put w' id (c.ρ id) (.box q'))/\Nx fl c (c.put w' id (c.ρ id) (.box q')):=by
 obtain⟨b',cs,T,e1,e2,e3,e4⟩:=hs.box id q hd hq;rw[hr]at e1;simp only[yCl,yAb,yBD,yAW]at e1;subst e1;obtain⟨hle,hcq⟩:=aH1 mY hw;have kQ:=aJ.ER hv hw;have hvl:vs.length=ws.length:=hv.1;have hcl:cs.toList.length=q.cells.length:=e3.1;have hst:=yDp (P:=P) b off T vs 0 cs c.w e2 (by simp at hcl;omega) kQ;simp only[yBU]at hst;refine⟨_,hst,?_,?_⟩
 .refine Sr.MC (T:=T) hs hd hq hr ⟨rfl,rfl,rfl,wz⟩ (λk hk=>yCf _ _ _ _ hk) (yCC _ _ cs _ T (0,0) e2) ?_ ?_
  .rw[hcq];exact e3.fill hv kQ off hle
  .refine⟨V3 e4.1 kQ off (off+vs.length),λt ds e=>?_⟩;exact e4.2 t _ (aH2 mY hw e).choose_spec
 .exact qn
theorem aDl(hs:Sr c){st:TypeId}{x:PD}{sz:Nat}{ys:Bw}(h:aDm P c.σ st x=some (sz,ys)){vx:Value}(hx:VR c vx x){size:Nat}(hsz:ys.length=0\/sz=size)(k:Nat)(hk:k<=ys.length) :
  ∃cells:List Value,(Builtin.firstCells size k vx).run P c.w=.ok cells.toArray c.w/\(Builtin.lenOf vx).run P c.w=.ok ys.length c.w/\aJ c cells ((ys.take k).flatMap PD.cells)/\∀v∈cells,v.oneCell'=true:=by
 have hflat:∀l:List UInt8,(l.map λb=>PD.int .u8 b.toNat).flatMap PD.cells=l.map λb=>PD.int .u8 b.toNat:=V4
 unfold aDm at h;split at h
 .rename_i l;split at h
  .simp only[yAb,yAc]at h;obtain⟨rfl,rfl⟩:=h;rw[hx.rH];refine⟨(l.take k).map λb=>.int .u8 b.toNat,?_,?_,?_,?_⟩
   .simp[Builtin.firstCells,aH3]
   .simp[Builtin.lenOf,ByteArray.size]
   .rw[<-yD,hflat];refine⟨wz,λi v d h1 h2=>?_⟩;rw[yAo]at h1 h2;cases hj:(l.take k)[i]? with
    |none=>rw[hj]at h1;cases h1
    |some b=>
     rw[hj]at h1 h2;simp only[yAC,yAb]at h1 h2;subst h1 h2;exact .int _ _
   .intro v hv;exact ja
  .cases h
 .obtain⟨B,cap,fly,rfl,b1,b2,b3,b4,b5,b6⟩:=aHT hs h hx;have hly:fly.length=ys.length*size:=by
   rcases hsz with h0|h0
   .rw[b3,h0];simp
   .rw[b3,h0]
  have hkl:(fly.take (k*size)).length=k*size:=by
   rw[yAt,hly];have:k*size<=ys.length*size:=yBO _ hk;omega
  refine⟨fly.take (k*size),?_,by simp[Builtin.lenOf],?_,λv hv=>b4 v (yAy hv)⟩
  .cases B with
   |none=>
    have:fly=[]:=by
     cases fly with
     |nil=>rfl
     |cons x xs=>obtain⟨_,e',_⟩:=b5 0 x rfl;cases e'
    exact oq
   |some bd=>
    simp only[Builtin.firstCells];exact RL hkl λj v hj=>by
     rw[yAv]at hj;split at hj
     .obtain⟨ad,e',h9⟩:=b5 j v hj;exact ir
     .cases hj
  .have hs2:∀y∈ys,y.cells.length=size:=λy hy=>by
    have:ys.length≠0:=by intro e;rw[yDJ.1 e]at hy;cases hy
    rw[<-hsz.resolve_left this];exact b2 y hy
   rw[aDn _ _ hs2];refine⟨by rw[hkl,yAt,<-b6.1,hly];have:k*size<=ys.length*size:=yBO _ hk;omega,λi v d h1 h2=>?_⟩;rw[yAv]at h1 h2;split at h1
   .rename_i hi;rw[yAJ hi]at h2;exact b6.2 i v d h1 h2
   .cases h1
theorem aPC(hs:Sr c){dt st:TypeId}{d x p:PD}{σ':Bv}(h:aDo P fl c.σ dt st d x=some (p,σ')){vd vx:Value}(hd:VR c vd d)(hx:VR c vx x)(ty:TypeId) :
  ∃v w',(Builtin.copy_ #[dt,st] ty #[vd,vx]).run P c.w=.ok v w'/\Leaves fl c p σ' v w':=by
 unfold aDo at h;split at h
 rotate_left
 .cases h
 rename_i e sz' ys hu hsrc;split at h
 rotate_left
 .cases h
 rename_i sz hsz;obtain⟨i,hi,hisz⟩:=aDp hsz;split at h
 rotate_left
 .cases h
 rename_i hc;have hsize:∀w:World,(sizeOf e).run P w=.ok sz w:=λw=>lE hsz
 split at h
 .simp only[yAb,yAc]at h;obtain⟨rfl,rfl⟩:=h;obtain⟨A,cap,flx,rfl,_⟩:=hd.nW;obtain⟨cells,r1,r2,r3,r4⟩:=aDl hs hsrc hx hc 0 (yAF _);have hce:cells=[]:=yAf (by rw[r3.1];simp);subst hce;refine⟨.int .i64 0,c.w,?_,c,rfl,rfl,hs,.refl _ _,.int _ _,λ_ h=>.inl h⟩;have hm:Nat.min ys.length 0=0:=Nat.min_zero _;cases A<;>simp[Builtin.copy_,yAO hu,r2,hsize,hm,r1,goInt,storeCells]
 .rename_i id off n jX;split at h
  rotate_left
  .cases h
  rename_i hc2;obtain⟨hfl,rfl,hpl⟩:=hc2;split at h
  rotate_left
  .cases h
  rename_i q hq;split at h
  rotate_left
  .cases h
  rename_i q' mY;simp only[yAb,yAc]at h;obtain⟨rfl,rfl⟩:=h;obtain⟨b,cap,rfl,hD,_,hr,h1,h2⟩:=hd.KF;obtain⟨cells,r1,r2,r3,r4⟩:=aDl hs hsrc hx hc (Nat.min ys.length n) (Nat.min_le_left _ _);have htk:ys.take (Nat.min ys.length n)=ys.take n:=by
   exact gw
  rw[htk]at r3;obtain⟨w',hst,hs',hn'⟩:=aPS (P:=P) (fl:=fl) hs hD hq hr r3 hpl mY hfl;exact jc
 .rename_i id ver off n jX;split at h
  rotate_left
  .cases h
  rename_i hc2;obtain⟨hfl,rfl⟩:=hc2;split at h
  rotate_left
  .cases h
  rename_i e' J9 fE cs hq;split at h
  rotate_left
  .cases h
  rename_i hc3;obtain⟨rfl,rfl,hle⟩:=hc3;simp only[yAb,yAc]at h;obtain⟨rfl,rfl⟩:=h;obtain⟨b,cap,rfl,hp,h1,h2⟩:=hd.MA;obtain⟨_,C,hr,hCo⟩:=(hp.2 _ _ _ cs hq).2 rfl;obtain⟨cells,r1,r2,r3,r4⟩:=aDl hs hsrc hx hc (Nat.min ys.length n) (Nat.min_le_left _ _);have htk:ys.take (Nat.min ys.length n)=ys.take n:=by
   exact gw
  rw[htk]at r3;obtain⟨w',hst,hs',hn'⟩:=aAs (P:=P) (fl:=fl) hs hp.1 hq hr r3 r4 hle hfl;exact jc
 .cases h
theorem bytes_beq(a b:List UInt8):(ByteArray.mk a.toArray==ByteArray.mk b.toArray)=(a==b):=by
 have h:(ByteArray.mk a.toArray==ByteArray.mk b.toArray)=(a.toArray==b.toArray):=rfl;rw[h];simp
def V5(d:TypeDesc)(k:PD):Prop:=(d=.string/\∃s,k=.str s)\/∃k0 n,d=.int k0/\k=.int k0 n
theorem aH4{kt:TypeId}{k:PD}(h:RN P kt k=true):∃d,P.underlying kt=some d/\V5 d k:=by
 unfold RN at h;split at h
 .rename_i s hu;exact⟨_,hu,.inl ⟨rfl,_,rfl⟩⟩
 .rename_i k0 k1 n hu;simp only[yBA]at h;subst h;exact⟨_,hu,.inr ⟨_,_,rfl,rfl⟩⟩
 .cases h
theorem aH5{d:TypeDesc}{k q:PD}(hd:V5 d k){vk vq:Value}(hk:VR c vk k)(hq:VR c vq q){b:Bool}(h:OG k q=some b):Instr.sameNow d vk vq=some b/\(b=true->vk=vq):=by
 rcases hd with⟨rfl,s,rfl⟩ | ⟨k0,n,rfl,rfl⟩
 .rw[hk.rH];cases q<;>simp only[OG,reduceCtorEq]at h
  rw[hq.rH];simp only[yAb]at h;subst h;refine⟨by simp only[Instr.sameNow,bytes_beq],λh=>?_⟩;rw[eq_of_beq h]
 .rw[hk.oP];cases q<;>simp only[OG,reduceCtorEq]at h
  rw[hq.oP];split at h
  .rename_i hkk;subst hkk;simp only[yAb]at h;subst h;refine⟨by simp[Instr.sameNow],λh=>?_⟩;rw[eq_of_beq h]
  .cases h
theorem aJ.tail{v:Value}{vs:Bz}{d:PD}{ds:Bw}(h:aJ c (v::vs) (d::ds)):aJ c vs ds:=⟨by have:=h.1;simpa using this,λi u x a b=>h.2 (i+1) u x Al Am⟩
theorem V6{d:TypeDesc}{k:PD}(hd:V5 d k){vk:Value}(hk:VR c vk k):∀(ents:List MapEntry) (ms:List (PD×PD)) (i:Nat) (r:Option (Nat×PD)),aJ c (ents.map MapEntry.key) (ms.map Prod.fst)->aJ c (ents.map MapEntry.val) (ms.map Prod.snd)->EV k ms i=some r ->
  match r with
  |some (j,v)=>∃en,i<=j/\ents[j-i]?=some en/\VR c en.val v/\en.key=vk/\Instr.findNow d vk ents i=some (some (j,en.val))
  |none=>Instr.findNow d vk ents i=some none
 | [],[],i,r,_,_,h=>by
   simp only[EV,yAb]at h;subst h;rfl
 | [],_::_,_,_,h,_,_=>by have:=h.1;simp at this
 |_::_,[],_,_,h,_,_=>by have:=h.1;simp at this
 |en::ents,m::ms,i,r,h1,h2,h=>by
  have hk0:VR c en.key m.1:=h1.2 0 _ _ rfl rfl;have gV:VR c en.val m.2:=h2.2 0 _ _ rfl rfl;unfold EV at h;split at h
  .rename_i he;simp only[yAb]at h;subst h;obtain⟨q1,q2⟩:=aH5 hd hk hk0 he;refine⟨en,yAk _,wz,gV,(q2 rfl).symm,?_⟩;simp[Instr.findNow,q1]
  .rename_i he;obtain⟨q1,_⟩:=aH5 hd hk hk0 he;have ih:=V6 hd hk ents ms (i+1) r h1.tail h2.tail h;cases r with
   |none=>
    simp only at ih ⊢;simp[Instr.findNow,q1,ih]
   |some jv=>
    obtain⟨j,v⟩:=jv;simp only at ih ⊢;obtain⟨en',g1,g2,g3,g4,g5⟩:=ih;refine⟨en',xb,?_,g3,g4,?_⟩
    .rw[show j-i=(j-(i+1))+1 by omega];simpa using g2
    .simp[Instr.findNow,q1,g5]
  .cases h
theorem V7{w:World}{kt:TypeId}{d:TypeDesc}{k:PD}(hu:P.underlying kt=some d)(hd:V5 d k){vk:Value}(hk:VR c vk k)(e:Bool):(Instr.checkKey e 10000 kt vk).run P w=.ok () w:=by
 rcases hd with⟨rfl,s,rfl⟩ | ⟨k0,n,rfl,rfl⟩
 .rw[hk.rH];exact ou
 .rw[hk.oP];exact ou
theorem V8{w:World}{kt:TypeId}{d:TypeDesc}{vk:Value}{l:List MapEntry}{a:Option (Nat×Value)}(hd:P.underlying kt=some d)(h:Instr.findNow d vk l 0=some a):(Instr.findKey kt vk l).run P w=.ok a w:=by
 simp[Instr.findKey,yAO hd,Result.andThen,h]
theorem aAt{w:World}{r:Nat}{es:Array MapEntry}{clock:Nat}(hb:w.heap[r]?=some (.map es clock)):(getObj r).run P w=.ok (.map es clock) w:=by simp[getObj,Sem.run,hb]
theorem aH6{w:World}{r:Nat}{es:Array MapEntry}{clock:Nat}(o:Obj)(hb:w.heap[r]?=some (.map es clock)):(setObj r o).run P w=.ok () (w.putObj r o):=by simp[setObj,Sem.run,hb,World.putObj]
theorem aPT{d:TypeDesc}{k:PD}(hd:V5 d k){vk:Value}(hk:VR c vk k)(w:World):(Instr.keyThatStays vk vk).run P w=.ok vk w:=by
 have:Instr.sameBits 10000 vk vk=true:=by
  rcases hd with⟨rfl,s,rfl⟩ | ⟨k0,n,rfl,rfl⟩
  .rw[hk.rH];simp only[Instr.sameBits,bytes_beq];simp
  .rw[hk.oP];simp[Instr.sameBits]
 simp[Instr.keyThatStays,this]
theorem aH7(hs:Sr c){id:Nat}{ms:List (PD×PD)}(hq:c.σ[id]?=some (.map ms)){vx:Value}(hx:VR c vx (.gG id)):∃b ents clock,vx=.map (some b)/\c.D id/\c.ρ id=.map (some b)/\c.w.heap[b]?=some (.map ents clock)/\aJ c (ents.toList.map MapEntry.key) (ms.map Prod.fst)/\aJ c (ents.toList.map MapEntry.val) (ms.map Prod.snd):=by
 obtain⟨b,rfl,hd,_,hr⟩:=hx.aPU;obtain⟨b',ents,clock,e1,e2,e3,e4⟩:=hs.map id ms hd hq;rw[hr]at e1;simp only[Value.map.injEq,yAb]at e1;subst e1;exact⟨b,ents,clock,rfl,hd,hr,e2,e3,e4⟩
theorem aPE(hs:Sr c){t:TypeId}{x k p:PD}{ok:Bool}(h:RO P c.σ t x k ok=some p){vx vk:Value}(hx:VR c vx x)(hk:VR c vk k):∃v,(Instr.lookup t vx vk ok).run P c.w=.ok v c.w/\VR c v p:=by
 have two:∀ {v:Value} {q:PD} (b:Bool),VR c v q->VR c (if ok then .tuple #[v,.bool b]else v) (if ok then .aK [q,.bool b]else q):=fun {v q} b hv=>by
  cases ok
  .exact hv
  .exact .aK [v,.bool b] [q,.bool b] rfl (λi u d h1 h2=>by
    match i with
    |0=>simp at h1 h2;subst h1;subst h2;exact hv
    |1=>simp at h1 h2;subst h1;subst h2;exact .bool b
    |i+2=>simp at h1)
 unfold RO at h;split at h
 rotate_left
 .cases h
 rename_i kt e hu;split at h
 rotate_left
 .cases h
 rename_i hki;obtain⟨d,hkt,hd⟩:=aH4 hki;split at h
 .rename_i id;split at h
  rotate_left
  .cases h
  rename_i ms hq;obtain⟨b,ents,clock,rfl,_,_,e2,e3,e4⟩:=aH7 hs hq hx;split at h
  .rename_i j v hf;simp only[yAb]at h;subst h;obtain⟨en,_,_,g3,_,g5⟩:=V6 hd hk _ _ 0 _ e3 e4 hf;refine⟨_,?_,two true g3⟩;simp[Instr.lookup,yAO hu,aAt e2,V7 hkt hd hk,V8 hkt g5]
  .rename_i hf;split at h
   .rename_i z hz;simp only[yAb]at h;subst h;obtain⟨zv,i,hi,hzv,hzr⟩:=L5 (c:=c) hz;have g5:=V6 hd hk _ _ 0 _ e3 e4 hf;have OF:(zeroValue e).run P c.w=.ok zv c.w:=za;refine⟨_,?_,two false hzr⟩;simp[Instr.lookup,yAO hu,aAt e2,V7 hkt hd hk,V8 hkt g5,OF]
   .cases h
  .cases h
 .split at h
  .rename_i z hz;simp only[yAb]at h;subst h;have hvx:vx=.map none:=by cases hx;rfl
   subst hvx;obtain⟨zv,i,hi,hzv,hzr⟩:=L5 (c:=c) hz;have OF:(zeroValue e).run P c.w=.ok zv c.w:=za;have g5:Instr.findNow d vk [] 0=some none:=rfl;refine⟨_,?_,two false hzr⟩;simp[Instr.lookup,yAO hu,V7 hkt hd hk,V8 hkt g5,OF]
  .cases h
 .cases h
theorem aJ.set{vs:Bz}{ds:Bw}(h:aJ c vs ds){v:Value}{p:PD}(hv:VR c v p)(j:Nat):aJ c (vs.set j v) (ds.set j p):=by
 refine⟨by simp[h.1],λi u d h1 h2=>?_⟩;rw[yCs]at h1 h2;split at h1
 .rename_i e;rw[yAJ e]at h2;split at h1
  .split at h2
   .simp only[yAb]at h1 h2;subst h1;subst h2;exact hv
   .cases h2
  .cases h1
 .rename_i e;rw[yAI e]at h2;exact h.2 i u d h1 h2
theorem aPF(hs:Sr c){t:TypeId}{x k v:PD}{σ':Bv}(h:RP P fl c.σ t x k v=some σ'){vx vk vv:Value}(hx:VR c vx x)(hk:VR c vk k)(hv:VR c vv v) :
  ∃w',(Instr.mapUpdate t vx vk vv).run P c.w=.ok () w'/\Leaves fl c (.aK []) σ' undef w':=by
 unfold RP at h;split at h
 rotate_left
 .cases h
 rename_i kt e hu;split at h
 rotate_left
 .cases h
 rename_i hki;obtain⟨d,hkt,hd⟩:=aH4 hki;split at h
 rotate_left
 .cases h
 rename_i id;split at h
 rotate_left
 .cases h
 rename_i hfl;split at h
 rotate_left
 .cases h
 rename_i ms hq;obtain⟨b,ents,clock,rfl,hD,hr,e2,e3,e4⟩:=aH7 hs hq hx;have hb:aV (c.ρ id)=some b:=zp;split at h
 .rename_i j v0 hf;simp only[yAb]at h;subst h;obtain⟨en,_,g2,g3,g4,g5⟩:=V6 hd hk _ _ 0 _ e3 e4 hf;simp only[Nat.sub_zero]at g2;subst g4;have g2':ents[j]?=some en:=by simpa using g2
  have hst:(Instr.mapUpdate t (.map (some b)) en.key vv).run P c.w=.ok () (c.w.putObj b (.map (ents.modify j λe=>{ e with key:=en.key,val:=vv }) clock)):=by
   simp[Instr.mapUpdate,yAO hu,aAt e2,V7 hkt hd hk,V8 hkt g5,g2',aPT hd hk,aH6 _ e2]
  have hkeys:((ents.modify j λe=>{ e with key:=en.key,val:=vv }).toList.map MapEntry.key)=(ents.toList.map MapEntry.key).set j en.key:=by
   exact cr
  have hvals:((ents.modify j λe=>{ e with key:=en.key,val:=vv }).toList.map MapEntry.val)=(ents.toList.map MapEntry.val).set j vv:=by
   exact cr
  refine⟨_,hst,_,rfl,rfl,Sr.CT (o':=.map (ms.set j (k,v))) hs hD hq trivial trivial hb e2 wz ⟨⟨_,_,rfl,?_,?_⟩,hr⟩,Nx.CT hs hD hq trivial trivial hb hfl e2 wz,V9 _,λi hi=>.inl hi⟩
  .rw[hkeys,List.map_set];exact e3.set hk j
  .rw[hvals,List.map_set];exact e4.set hv j
 .rename_i hf;simp only[yAb]at h;subst h;have g5:=V6 hd hk _ _ 0 _ e3 e4 hf;have hst:(Instr.mapUpdate t (.map (some b)) vk vv).run P c.w=.ok () (c.w.putObj b (.map (ents.push { key:=vk,val:=vv,born:=clock }) (clock+1))):=by
   simp[Instr.mapUpdate,yAO hu,aAt e2,V7 hkt hd hk,V8 hkt g5,aH6 _ e2]
  have one:∀ {v:Value} {p:PD},VR c v p->aJ c [v] [p]:=λh=>⟨rfl,λi u d h1 h2=>by
   match i with
   |0=>simp at h1 h2;subst h1;subst h2;exact h
   |i+1=>simp at h1⟩
  refine⟨_,hst,_,rfl,rfl,Sr.CT (o':=.map (ms++[(k,v)])) hs hD hq trivial trivial hb e2 wz ⟨⟨_,_,rfl,?_,?_⟩,hr⟩,Nx.CT hs hD hq trivial trivial hb hfl e2 wz,V9 _,λi hi=>.inl hi⟩
  .simp only[Array.toList_push,yAH];exact e3.append (one hk)
  .simp only[Array.toList_push,yAH];exact e4.append (one hv)
 .cases h
theorem aPD(hs:Sr c)(t:TypeId):∃v w',(Instr.makeMap t none).run P c.w=.ok v w'/\Leaves fl c (.gG c.σ.length) (c.σ++[.map []]) v w':=by
 have hbk:∀b,aV (.map (some c.w.heap.size))=some b->c.w.heap.size<=b/\b<(c.w.alloc (.map #[] 0)).heap.size:=λb hb=>by
  simp[aV]at hb;subst hb;simp
 refine⟨.map (some c.w.heap.size),c.w.alloc (.map #[] 0),rfl,c.push (c.w.alloc (.map #[] 0)) (.map (some c.w.heap.size)) (.map []),rfl,rfl,?_,Nx.push hs (HT _ _) (λb hb=>(hbk b hb).1),?_,?_⟩
 .exact Sr.push hs (HT _ _) hbk ⟨_,#[],0,rfl,yBB _ _,⟨rfl,wz⟩,⟨rfl,wz⟩⟩
 .exact .gG _ _ (.inr rfl) (by rw[fB.1];trivial) fB.2.1
 .exact ay
end
end
section
open Go.RowKit
section
variable{P:Program}{c:Cx}{fl:Nat}
def aHS(P:Program)(o:Oper)(a:Act)(w:World)(v:Value)(w':World):Prop:=
 (execOp a.eval o).run P w=.ok (.value v) w'\/((execOp a.eval o).run P w=.ok .skip w'/\v=undef)
theorem aPt(hs:Sr c)(hX:Xw fl c){a:Act}{fr:Bw}(hf:FR c a fr){o:Oper}{p:PD}{σ':Bv}(h:cK P fl fr c.σ o.op=some (p,σ')) :
  ∃v w',aHS P o a c.w v w'/\Leaves fl c p σ' v w':=by
 obtain⟨dst,op,ty,pos,after,guard⟩:=o;simp only at h;unfold cK at h;split at h
 .rename_i t x;split at h
  .rename_i pa h1;split at h
   .rename_i q hq;simp only[yAb,yAc]at h;obtain⟨rfl,rfl⟩:=h;obtain⟨v,r,hv⟩:=aHA hs hq (cL hf h1);exact gh
   .exact ah
  .exact ah
 .rename_i t x y;split at h
  .rename_i pa pb h1 h2;split at h
   .rename_i s' hs';simp only[yAb,yAc]at h;obtain⟨rfl,rfl⟩:=h;obtain⟨w',r,hl⟩:=aPu hs hs' (cL hf h1) (cL hf h2);exact⟨undef,w',.inr ⟨Bj,rfl⟩,hl⟩
   .exact ah
  .exact ah
 .rename_i t;split at h
  .rename_i q hq;split at h
   .rename_i hpl;simp only[yAb,yAc]at h;obtain⟨rfl,rfl⟩:=h;obtain⟨zv,i,hi,hzv,hzr⟩:=L5 (c:=c) hq;obtain⟨r,hl⟩:=aC8 (P:=P) (fl:=fl) hs (aAk hq hi hzv t) (aJ.ER hzr.cells hpl) t (λt' ds e=>aAl hzr e);refine⟨_,_,.inl ?_,hl⟩;simp[execOp,Instr.alloc,zeroValue,typeInfo,hi,hzv,r]
   .exact ah
  .exact ah
 .rename_i t x;split at h
  .rename_i q hq;split at h
   .rename_i hpl;simp only[yAb,yAc]at h;obtain⟨rfl,rfl⟩:=h;obtain⟨r,hl⟩:=aC8 (P:=P) (fl:=fl) (p:=mE t q) hs (by rw[aPv];exact(cL hf hq).cells) (aJ.ER (cL hf hq).cells hpl) t (λt' ds e=>aPw (cL hf hq) e);refine⟨_,_,.inl ?_,hl⟩;simp[execOp,Instr.box,r]
   .exact ah
  .exact ah
 .rename_i t len parts;split at h
  .rename_i ps h1;split at h
   .rename_i q hq;simp only[yAb,yAc]at h;obtain⟨rfl,rfl⟩:=h;obtain⟨a1,a2⟩:=aAr hf h1;obtain⟨v,w',r,hl⟩:=aPx (fl:=fl) hs (vparts:=parts.toList.map λq=>(q.1,a.eval q.2)) hq (by simpa using a1) (λi jv jp h3 h4=>by
     rw[yAo]at h4;cases hx:ps[i]? with
     |none=>rw[hx]at h4;simp at h4
     |some x=>
      rw[hx]at h4;simp only[yAC,yAb]at h4;subst h4;exact⟨(a2 i jv x h3 hx).1,(a2 i jv x h3 hx).2.strip⟩)
    refine⟨v,w',.inl ?_,hl⟩;have e:(Array.map (λx=>match x with|(i,x)=>(i,a.eval x)) parts)=(parts.toList.map λq=>(q.1,a.eval q.2)).toArray:=yu;simp only[execOp,yAV];rw[e,r];simp
   .exact ah
  .exact ah
 .rename_i s d x;split at h
  .split at h
   .rename_i q hq;split at h
    .rename_i r hr;simp only[yAb,yAc]at h;obtain⟨rfl,rfl⟩:=h;obtain⟨v,w',r,hl⟩:=aPy (fl:=fl) hs hr (cL hf hq);exact⟨v,w',.inl Bj,hl⟩
    .split at h
     .rename_i r hr;simp only[yAb,yAc]at h;obtain⟨rfl,rfl⟩:=h;obtain⟨v,r,hv⟩:=aPz hs hr (cL hf hq);exact gh
     .exact ah
   .exact ah
  .exact ah
 .rename_i t l k;split at h
  .rename_i e l' k' hu h1 h2;have hl:∃kl,a.eval l=.int kl (l':Int):=by
    cases hx:aT fr l with
    |none=>rw[hx]at h1;cases h1
    |some q=>
     rw[hx]at h1;obtain⟨kl,zl,e1,e2,e3⟩:=N9 h1 (cL hf hx);exact⟨kl,by rw[e1,<-e3];congr 1;omega⟩
   have hk:∃kk,a.eval k=.int kk (k':Int):=by
    cases hx:aT fr k with
    |none=>rw[hx]at h2;cases h2
    |some q=>
     rw[hx]at h2;obtain⟨kl,zl,e1,e2,e3⟩:=N9 h2 (cL hf hx);exact⟨kl,by rw[e1,<-e3];congr 1;omega⟩
   obtain⟨kl,hl⟩:=hl;obtain⟨kk,hk⟩:=hk;obtain⟨v,w',r,hlv⟩:=aPA (fl:=fl) hs hu h kl kk;exact⟨v,w',.inl (by simp[execOp,hl,hk,r]),hlv⟩
  .exact ah
 .rename_i args ts;split at h
  .rename_i s t h1 h2;split at h
   .rename_i s' hs';simp only[yAb,yAc]at h;obtain⟨rfl,rfl⟩:=h;have hv:=oK hf h1;have hvl:=hv.1;obtain⟨args⟩:=args;obtain⟨ts⟩:=ts;simp only at h1 hv hvl h2
    match args,hv,hvl with
    | [x1],hv,_=>
      subst h2;obtain⟨v,w',r,hl⟩:=aPB (fl:=fl) hs hs' (hv.2 0 _ _ rfl rfl) ty;exact bt
   .exact ah
  .exact ah
 .rename_i args ts;split at h
  .rename_i d x t t' h1 h2;have hv:=oK hf h1;have hvl:=hv.1;obtain⟨args⟩:=args;obtain⟨ts⟩:=ts;simp only at h1 hv hvl h2
   match args,hv,hvl with
   | [x1,x2],hv,_=>
     subst h2;obtain⟨v,w',r,hl⟩:=aPC (fl:=fl) hs h (hv.2 0 _ _ rfl rfl) (hv.2 1 _ _ rfl rfl) ty;exact bt
  .exact ah
 .rename_i t;split at h
  .simp only[yAb,yAc]at h;obtain⟨rfl,rfl⟩:=h;obtain⟨v,w',r,hl⟩:=aPD (P:=P) (fl:=fl) hs t;exact⟨v,w',.inl Bj,hl⟩
  .exact ah
 .rename_i t x k ok;split at h
  .rename_i m k' h1 h2;split at h
   .rename_i q hq;simp only[yAb,yAc]at h;obtain⟨rfl,rfl⟩:=h;obtain⟨v,r,hv⟩:=aPE hs hq (cL hf h1) (cL hf h2);exact gh
   .exact ah
  .exact ah
 .rename_i t x k v;split at h
  .rename_i m k' v' h1 h2 h3;split at h
   .rename_i s' hs';simp only[yAb,yAc]at h;obtain⟨rfl,rfl⟩:=h;obtain⟨w',r,hl⟩:=aPF (fl:=fl) hs hs' (cL hf h1) (cL hf h2) (cL hf h3);exact⟨undef,w',.inr ⟨Bj,rfl⟩,hl⟩
   .exact ah
  .exact ah
 .rename_i args ts;split at h
  .rename_i s x t t' h1 h2;split at h
   .rename_i htt;subst htt;have hv:=oK hf h1;have hvl:=hv.1;obtain⟨args⟩:=args;obtain⟨ts⟩:=ts;simp only at h1 hv hvl h2
    match args,hv,hvl with
    | [x1,x2],hv,_=>
      subst h2;split at h
      .rename_i q hq;simp only[yAb]at h;subst h;obtain⟨v,w',r,hl⟩:=aPG (fl:=fl) hs hq (hv.2 0 _ _ rfl rfl) (hv.2 1 _ _ rfl rfl) ty;exact bt
      .obtain⟨v,w',r,hl⟩:=aPH hs hX h (hv.2 0 _ _ rfl rfl) (hv.2 1 _ _ rfl rfl).strip ty;exact bt
   .split at h
    .rename_i l hst;split at h
     .rename_i hb;have hv:=oK hf h1;have hvl:=hv.1;obtain⟨args⟩:=args;obtain⟨ts⟩:=ts;simp only at h1 hv hvl h2
      match args,hv,hvl with
      | [x1,x2],hv,_=>
        subst h2;have hx2:=(hv.2 1 _ _ rfl rfl).rH;split at h
        .rename_i q hq;simp only[yAb]at h;subst h;obtain⟨v,w',r,hl⟩:=aPI (fl:=fl) hs hst hb hq (hv.2 0 _ _ rfl rfl) ty;exact dj
        .obtain⟨v,w',r,hl⟩:=aPJ hs hX hst hb h (hv.2 0 _ _ rfl rfl) ty;exact dj
     .exact ah
    .rename_i m hst;have hv:=oK hf h1;have hvl:=hv.1;obtain⟨args⟩:=args;obtain⟨ts⟩:=ts;simp only at h1 hv hvl h2
     match args,hv,hvl with
     | [x1,x2],hv,_=>
       subst h2;have hx2:=(hv.2 1 _ _ rfl rfl).oP;obtain⟨v,w',r,hl⟩:=aPK (fl:=fl) hs hst h (hv.2 0 _ _ rfl rfl) ty;exact dj
    .exact ah
  .exact ah
 .exact ah
theorem aPo(hs:Sr c)(hX:Xw fl c){a:Act}{fr:Bw}(hf:FR c a fr){o:Oper}{p:PD}{σ':Bv}(h:pop P fl fr c.σ o.op=some (p,σ')) :
  ∃v w',aHS P o a c.w v w'/\Leaves fl c p σ' v w':=by
 unfold pop at h;split at h
 .rename_i q hq;simp only[yAb,yAc]at h;obtain⟨rfl,rfl⟩:=h;obtain⟨v,r,hv⟩:=aPL hf hq c.w;exact⟨v,c.w,.inl r,c,rfl,rfl,hs,.refl _ _,hv,λ_ h=>.inl h⟩
 .exact aPt hs hX hf h
theorem aHq{a:Act}{fr:Bw}(hf:FR c a fr){o:Oper}{f:FuncId}{ps:Bw}(h:dI fr o.op=some (.inl f,ps)){fn:Func}(hfn:P.funcs[f]?=some fn)(hb:fn.body.isSome=true)(hn:(fn.name== "runtime.NumGoroutine")=false) :
  ∃vs:List Value,(execOp a.eval o).run P c.w=.ok (.enter f vs.toArray) c.w/\aJ c vs ps:=by
 obtain⟨dst,op,ty,pos,after,guard⟩:=o;simp only at h;unfold dI at h;split at h
 .rename_i g args ts;split at h
  .rename_i f' cap qs h1 h2;simp only[yAb,yAc,yCr]at h;obtain⟨rfl,rfl⟩:=h;obtain⟨cs,e,hcs⟩:=(cL hf h1).RA;have hv:=oK hf h2;refine⟨args.toList.map a.eval++cs,?_,hv.append hcs⟩;have hb':fn.body.isNone=false:=Ba;have e2:(#[]++args.map a.eval++cs.toArray)=(args.toList.map a.eval++cs).toArray:=yu;exact lu
  .rename_i f' first qs h1 h2;simp only[yAb,yAc,yCr]at h;obtain⟨rfl,rfl⟩:=h;obtain⟨cs,e,hcs⟩:=(cL hf h1).aCZ;have hv:=oK hf h2;refine⟨cs++args.toList.map a.eval,?_,hcs.append hv⟩;have hb':fn.body.isNone=false:=Ba;have e2:(cs.toArray++args.map a.eval++#[])=(cs++args.toList.map a.eval).toArray:=yu;exact lu
  .exact ah
  .exact ah
 .exact ah
theorem VR.aPM{v:Value}{id:Nat}(h:VR c v (.yield id)):∃l,v=.func (.yield l) #[] #[]/\c.D id/\pH c.σ[id]?/\c.ρ id=.pointer (some ⟨l,0,none⟩):=by
 cases h with|yield _ l h1 h2 h3=>exact⟨l,rfl,h1,h2,h3⟩
theorem aPn{a:Act}{fr:Bw}(hf:FR c a fr){o:Oper}{id:Nat}{ps:Bw}(h:dI fr o.op=some (.inr id,ps)) :
  ∃(l:Nat) (vs:List Value),(∀w:World,(execOp a.eval o).run P w=(Instr.yield l vs.toArray).run P w)/\aJ c vs ps/\c.D id/\c.ρ id=.pointer (some ⟨l,0,none⟩):=by
 obtain⟨dst,op,ty,pos,after,guard⟩:=o;simp only at h;unfold dI at h;split at h
 .rename_i g args ts;split at h
  .exact ah
  .exact ah
  .rename_i id' qs h1 h2;simp only[yAb,yAc,Sum.inr.injEq]at h;obtain⟨rfl,rfl⟩:=h;obtain⟨l,e,hd,hn,hr⟩:=(cL hf h1).aPM;have hv:=oK hf h2;refine⟨l,args.toList.map a.eval,λw=>?_,hv,hd,hr⟩;have e2:(#[]++args.map a.eval)=(args.toList.map a.eval).toArray:=yu;simp only[execOp,resolve,e,Deferred.ofValue,yAV,yAY,yAX,invoke,e2]
  .exact ah
 .exact ah
end
end
section
inductive PX where
 |normal
 |exit (id:Nat)
 |ret
 |panic (v:Value)
def PX.VQ:PX->Exit
 |.normal=>.normal
 |.exit id=>.exit id
 |.ret=>.ret
 |.panic v=>.panic [{ v,recovered:=false }]
structure PO where
 x:PX
 fr:Bw
 ms:List Nat
 σ:Bv
abbrev cO:=Nat->FuncId ⊕ Nat->List PD->List U->Option (PD×List U)
abbrev N5:=Option Nat->Code->Nat->List PD->List Nat->List U->Option PO
structure aE where
 ret:FuncId->Option (Nat->List PD->List U->Option (PD×List U))
 aZ:FuncId->Option (Nat->List PD->List U->Option (Value×List U)):=λ_=>none
instance:CoeFun aE (λ_=>FuncId->Option (Nat->List PD->List U->Option (PD×List U))):=⟨aE.ret⟩
def aE.nil:aE:={ ret:=λ_=>none }
def bI(P:Program)(call:cO)(fl:Nat)(fr:List PD)(σ:List U)(op:Op):Option (PD×List U):=
 match dI fr op with
 |some (tg,args)=>call fl tg args σ
 |none=>pop P fl fr σ op
def dM(P:Program)(call:cO)(fl:Nat)(ops:Array Oper):List Oper->List PD->List U->Option (List PD×List U)
 | [],fr,σ=>some (fr,σ)
 |o::rest,fr,σ=>
  if Region.wanted o (aY ops fr)then
   match bI P call fl fr σ o.op with
   |some (p,σ')=>dM P call fl ops rest (aL fr o.dst p) σ'
   |none=>none
  else dM P call fl ops rest (aL fr o.dst (.aK [])) σ
def V1(P:Program)(call:cO)(fl:Nat)(ops:Array Oper):List Oper->List PD->List U->Option (List PD×List U)
 | ⟨some d,.buildSlice t len parts,_,_,_,none⟩::⟨d2,.convert s t' (.tmp d'),_,_,_,none⟩::rest,fr,σ=>
   match P.underlying t with
   |some (.slice e)=>match P.underlying e with
    |some (.int .u8)=>if s=t/\t'=t/\d'=d/\d<fr.length then
      match rE fr parts.toList with
      |some ps=>match HN P t len (ps.map λq=>(q.1,q.2.strip))with
       |some (.slice n xs .full)=>dM P call fl ops rest (aL (fr.set d (.slice n xs .full)) d2 (.slice n xs .full)) σ
       |_=>none
      |none=>none
     else none
    |_=>none
   |_=>none
 |_,_,_=>none
def VP(P:Program)(call:cO)(fl:Nat)(ops:Array Oper)(fr:List PD)(σ:List U):Option (List PD×List U):=
 match dM P call fl ops ops.toList fr σ with
 |some x=>some x
 |none=>V1 P call fl ops ops.toList fr σ
def cW:Op->Bool
 |.convert s d _=>!NR s d
 |.move _|.assign _|.pick .. | .binOp .. | .unOp .. | .makeFunc .. | .slice .. | .fieldAddr .. | .field .. | .indexAddr .. | .index .. | .extract .. | .nilCheck _|.build ..=>true
 |.call { callee:=.builtin .len,.. } | .call { callee:=.builtin .min,.. } | .call { callee:=.builtin .max,.. }=>true
 |_=>false
def dA:Op->Bool
 |.load ..=>true
 |.convert s d _=>NR s d
 |_=>false
def bZ:Op->Bool
 |.alloc _=>true
 |_=>false
def aDc(t:TypeId)(a b:Operand):Bool:=match a,b with
 |.const (.int _ l),.const (.int _ k)=>decide (l=k)&&decide (0<l)&&!aDb t
 |_,_=>false
def iW:Op->Bool
 |.buildSlice ..=>true
 |.makeSlice t a b=>aDc t a b
 |_=>false
def eO:Op->Bool
 |.store ..=>true
 |_=>false
def cI:Op->Bool
 |.box ..=>true
 |.call { callee:=.value _,.. }=>true
 |.call { callee:=.builtin .append,.. }=>true
 |.call { callee:=.builtin .copy,.. }=>true
 |_=>false
def cX(o:Op):Bool:=eO o||cI o
def HO(acc:List Nat)(o:Oper):Nat:=
 o.after.toList.foldl (λs e=>if Region.binds .any e then s ||| 2^e.on ||| acc.getD e.on 0 else s) 0
def cA:List Oper->List Nat->List Nat
 | [],acc=>acc
 |o::r,acc=>cA r (acc++[HO acc o])
def eN(f:Op->Bool)(ops:List Oper)(i:Nat):Bool:=((ops[i]?).map λo=>f o.op).getD false
def loose(ms:List Nat)(i j:Nat):Bool:=!(ms.getD i 0).testBit j&&!(ms.getD j 0).testBit i
def j9(ops:List Oper)(ms:List Nat)(k:Nat):Bool:=
 (List.range ops.length).all λi=>!eN dA ops i||!loose ms i k
def aHN(ops:Array Oper)(i:Nat)(o:Oper):Bool:=
 (List.range ops.size).all λj=>j==i ||
  match ops[j]? with
  |none=>true
  |some oj=>match oj.dst with
   |none=>true
   |some d=>(o.dst != some d)&&(!(o.looksAt ops).contains d ||
     (if j<i then o.after.any (λe=>Region.binds .any e&&e.on==j)else oj.after.any (λe=>Region.binds .any e&&e.on==i)))
def JX(ops:Array Oper)(ms:List Nat):Bool:=
 Region.noSelect ops &&
 (List.range ops.size).all λi=>match ops[i]? with
  |none=>true
  |some o=>(cW o.op||dA o.op||bZ o.op||iW o.op||cX o.op)&&aHN ops i o&&o.after.all (λe=>!Region.binds .any e||e.on<i) &&
    (!cX o.op||(List.range i).all λj=>!eN cX ops.toList j||(ms.getD i 0).testBit j)
def kN(P:Program):List Oper->Option (List U)
 | []=>some []
 |o::r=>match o.op with
  |.alloc t=>match dS P t,kN P r with
    |some p,some l=>if p.cells.all PD.plain then some (.box (boxed t p)::l)else none
    |_,_=>none
  |_=>kN P r
def jH:PD->Option Nat
 |.ptr id _=>some id
 |.gO id _ _=>some id
 |.fR id _ _ _=>some id
 |_=>none
def mT(fr:List PD):Op->Option Nat
 |.load _ x=>match aT fr x with|some a=>jH a|none=>none
 |.store _ x _=>match aT fr x with|some a=>jH a|none=>none
 |.convert _ _ x=>match aT fr x with|some a=>jH a|none=>none
 |_=>none
def eA(P:Program)(call:cO)(fl:Nat)(free:Bool)(k:Nat)(fr:List PD)(σ:List U)(op:Op):Option (PD×List U):=
 if cW op then(match dD P fr op with|some p=>some (p,σ)|none=>none)
 else if bZ op then some (.ptr k 0,σ)
 else if cI op&&!free then
  match bI P call (max fl σ.length) fr σ op with
  |some (p,σ')=>some (p,σ++σ'.drop σ.length)
  |none=>none
 else if cI op then bI P call fl fr σ op
 else cK P fl fr σ op
structure TE where
 fr:Bw
 σ:Bv
 p:PD
 jW:Option Nat
def fY(P:Program)(call:cO)(fl:Nat)(ops:Array Oper)(ms:List Nat):Nat->Nat->List Oper->List PD->List U->Option (List TE×Bw×List U)
 |_,_,[],fr,σ=>some ([],fr,σ)
 |i,k,o::rest,fr,σ=>
  let k':=if bZ o.op then k+1 else k
  if Region.wanted o (aY ops fr)then
   match eA P call fl (j9 ops.toList ms i) k fr σ o.op with
   |some (p,σ')=>match fY P call fl ops ms (i+1) k' rest (aL fr o.dst p) σ' with
    |some (tr,fr',tN)=>some (⟨fr,σ,p,mT fr o.op⟩::tr,fr',tN)
    |none=>none
   |none=>none
  else match fY P call fl ops ms (i+1) k' rest (aL fr o.dst (.aK [])) σ with
   |some (tr,fr',tN)=>some (⟨fr,σ,.aK [],none⟩::tr,fr',tN)
   |none=>none
def CH(ops:List Oper)(ms:List Nat)(tr:List TE):Bool:=
 (List.range ops.length).all λk=>!eN eO ops k||(List.range ops.length).all λi=>!eN dA ops i||!loose ms i k ||
  match ((tr[i]?).bind TE.jW),((tr[k]?).bind TE.jW)with
  |some a,some b=>a != b
  |_,_=>true
def mA(P:Program)(call:cO)(fl:Nat)(ops:Array Oper)(fr:List PD)(σ:List U):Option (List PD×List U):=
 let ms:=cA ops.toList []
 if JX ops ms then
  match kN P ops.toList with
  |some hs=>match fY P call fl ops ms 0 σ.length ops.toList fr (σ++hs)with
   |some (tr,fr',σ')=>if CH ops.toList ms tr then some (fr',σ')else none
   |none=>none
  |none=>none
 else none
def oO(P:Program)(call:cO)(fl:Nat)(ops:Array Oper):Nat->Nat->List Oper->List PD->List U->Option (List TE×Bw×List U)
 |_,_,[],fr,σ=>some ([],fr,σ)
 |i,k,o::rest,fr,σ=>
  let k':=if bZ o.op then k+1 else k
  if Region.wanted o (aY ops fr)then
   match eA P call fl true k fr σ o.op with
   |some (p,σ')=>match oO P call fl ops (i+1) k' rest (aL fr o.dst p) σ' with
    |some (tr,fr',tN)=>some (⟨fr,σ,p,mT fr o.op⟩::tr,fr',tN)
    |none=>none
   |none=>none
  else match oO P call fl ops (i+1) k' rest (aL fr o.dst (.aK [])) σ with
   |some (tr,fr',tN)=>some (⟨fr,σ,.aK [],none⟩::tr,fr',tN)
   |none=>none
def TE.at(tr:List TE)(CW:List U)(j:Nat):List U:=match tr[j]? with
 |some t=>t.σ
 |none=>CW
def aPs(ops:List Oper)(ms:List Nat)(tr:List TE)(CW:List U):Prop:=
 ∀(k i id:Nat) (ok oi:Oper),ops[k]?=some ok->ops[i]?=some oi->cI ok.op=true->dA oi.op=true->loose ms i k=true->(tr[i]?).bind TE.jW=some id ->
  (TE.at tr CW k).length<=(TE.at tr CW (k+1)).length/\(id<(TE.at tr CW k).length->(TE.at tr CW (k+1))[id]?=(TE.at tr CW k)[id]?)
open Classical in
def pG(P:Program)(call:cO)(fl:Nat)(ops:Array Oper)(fr:List PD)(σ:List U):Option (List PD×List U):=
 match mA P call fl ops fr σ with
 |some x=>some x
 |none=>if JX ops (cA ops.toList [])then
  match kN P ops.toList with
  |some hs=>match oO P call fl ops 0 σ.length ops.toList fr (σ++hs)with
   |some (tr,fr',σ')=>if CH ops.toList (cA ops.toList []) tr=true/\aPs ops.toList (cA ops.toList []) tr σ' then some (fr',σ')else none
   |none=>none
  |none=>none
 else none
def CO(P:Program)(fr:List PD)(σ:List U):ResultVar->Option PD
 |.tmp t=>some (fr.getD t (.aK []))
 |.cell a t=>match fr.getD a (.aK [])with
   |.ptr id off=>j8 P σ t (.ptr id off)
   |_=>none
def oI(P:Program)(fr:List PD)(σ:List U):List ResultVar->Option (List PD)
 | []=>some []
 |r::rs=>match CO P fr σ r,oI P fr σ rs with
  |some p,some ps=>some (p::ps)
  |_,_=>none
def LV:List PD->PD
 | [p]=>p
 |ps=>.aK ps
def NV(fl:Nat):List Nat->List U->Option (List U)
 | [],σ=>some σ
 |m::ms,σ=>if fl<=m then(match σ[m]? with
  |some .mark=>NV fl ms (σ.set m .none)
  |_=>none)else none
def NU(fr:List PD):List Tmp->List PD->Bw
 |t::ts,p::ps=>NU (fr.set t p) ts ps
 |_,_=>fr
def aAj(code:N5)(fl:Nat)(id:Nat)(args:List PD)(σ:List U):Option (PD×List U):=
 if fl<=id then
  match σ[id]? with
  |some (.loop .ready fr ps assign body)=>
   if args.length=ps.length then
    match code (some id) assign fl (NU fr ps args) [] σ with
    |some ⟨.normal,aG,ms1,σ1⟩=>
     match σ1[id]? with
     |some (.loop .ready gY RB RD RE)=>
      match code (some id) body fl aG ms1 (σ1.set id (.loop .busy gY RB RD RE))with
      |some ⟨x,_,_,σ2⟩=>
       match σ2[id]? with
       |some (.loop .busy fr3 VV as3 bd3)=>
        match x with
        |.normal=>some (.bool true,σ2.set id (.loop .ready fr3 VV as3 bd3))
        |.ret=>some (.bool false,σ2.set id (.loop (.done .ret) fr3 VV as3 bd3))
        |.exit k=>some (.bool false,σ2.set id (.loop (.done (.exit k)) fr3 VV as3 bd3))
        |.panic _=>none
       |_=>none
      |none=>none
     |_=>none
    |_=>none
   else none
  |_=>none
 else none
def vL(P:Program)(fl:Nat)(fn:Func)(r:PO):Option (PD×List U):=
 match r.x with
 |.exit _=>none
 |.panic _=>none
 |_=>match NV fl r.ms r.σ with
  |some σ=>match oI P r.fr σ fn.results.toList with
   |some ps=>some (LV ps,σ)
   |none=>none
  |none=>none
def aAg(P:Program)(code:N5)(fl:Nat)(f:FuncId)(args:List PD)(σ:List U):Option (PD×List U):=
 match P.funcs[f]? with
 |some fn=>match fn.body with
  |some c=>match code none c fl (args++List.replicate (fn.ntmps-args.length) (.aK [])) [] σ with
   |some r=>vL P fl fn r
   |none=>none
  |none=>none
 |none=>none
def PD.scalar:PD->Option Value
 |.int k n=>some (.int k n)
 |.bool b=>some (.bool b)
 |.str s=>some (.string ⟨s.toArray⟩)
 |_=>none
def scalars:List PD->Option (List Value)
 | []=>some []
 |p::ps=>match p.scalar,scalars ps with
  |some v,some vs=>some (v::vs)
  |_,_=>none
def PD.fail:PD->Option Value
 |.iface t (.agg cs)=>match scalars cs with
   |some vs=>some (.iface t (.agg vs.toArray))
   |none=>none
 |_=>none
def nU(E:aE)(fl:Nat)(fr:List PD)(σ:List U)(op:Op):Option (Value×List U):=
 match op with
 |.panic x=>match aT fr x with
   |some p=>match p.fail with
    |some v=>some (v,σ)
    |none=>none
   |none=>none
 |_=>match dI fr op with
  |some (.inl f,args)=>match E.ret f with
   |some g=>match g fl args σ with
    |none=>match E.aZ f with
     |some q=>q fl args σ
     |none=>none
    |some _=>none
   |none=>none
  |_=>none
def HS(P:Program)(E:aE)(call:cO)(fl:Nat)(ops:Array Oper):List Oper->List PD->List U->Option (Value×Bw×List U)
 | [],_,_=>none
 |o::rest,fr,σ=>
  if Region.wanted o (aY ops fr)then
   match bI P call fl fr σ o.op with
   |some (p,σ')=>HS P E call fl ops rest (aL fr o.dst p) σ'
   |none=>match nU E fl fr σ o.op with
    |some (v,σ')=>some (v,fr,σ')
    |none=>none
  else HS P E call fl ops rest (aL fr o.dst (.aK [])) σ
def cN(E:aE):cO
 |fl,.inl f,args,σ=>match E f with
  |some g=>g fl args σ
  |none=>none
 |_,.inr _,_,_=>none
def ES(P:Program)(E:aE)(fl:Nat)(ops:Array Oper)(b:Nat->Bool):Nat->Nat->List Oper->List PD->List U->Option (Value×List U)
 |_,_,[],_,_=>none
 |i,k,o::rest,fr,σ=>
  if Region.wanted o (aY ops fr)then
   match eA P (cN E) fl (b i) k fr σ o.op with
   |some (p,σ')=>ES P E fl ops b (i+1) (if bZ o.op then k+1 else k) rest (aL fr o.dst p) σ'
   |none=>nU E fl fr σ o.op
  else ES P E fl ops b (i+1) (if bZ o.op then k+1 else k) rest (aL fr o.dst (.aK [])) σ
def PD.mark:PD:=.bL (.bool true)
def PD.N0:PD->Bool
 |.bL (.bool true)=>true
 |_=>false
def PD.marked:PD->Bool
 |.agg cs=>cs.any PD.N0
 |p=>p.N0
open Classical in
def N4(E:aE)(fl0:Nat)(f:FuncId)(x:PD)(v:Value)(τ:List U):Nat->List PD->List U->Option (PD×List U):=λfl args σ=>
 match E.ret f with
 |some g=>match g fl args σ with
  |some r=>some r
  |none=>match E.aZ f with
   |some q=>if fl=fl0/\q fl args σ=some (v,τ)then some (x,σ)else none
   |none=>none
 |none=>none
def aE.HU(E:aE)(fl0:Nat)(f:FuncId)(x:PD)(v:Value)(τ:List U):aE:={ ret:=λf'=>if f'=f then some (N4 E fl0 f x v τ)else E.ret f',aZ:=E.aZ }
open Classical in
def N3(P:Program)(E:aE)(fl:Nat)(ops:Array Oper)(fr:List PD)(σ:List U):Option (Value×List U):=
 match kN P ops.toList with
 |some hs=>match ES P E fl ops (j9 ops.toList (cA ops.toList [])) 0 σ.length ops.toList fr (σ++hs),ES P E fl ops (λ_=>true) 0 σ.length ops.toList fr (σ++hs)with
  |some (v,τ),some (v2,kH)=>if v2=v/\kH=τ/\(ops.toList.all λo=>match o.dst with|some d=>decide (7<=d)|none=>true)=true/\∃f x fr' σ',pG P (cN (E.HU fl f x v τ)) fl ops fr σ=some (fr',σ')/\fr'.any PD.marked=true/\x.marked=true then some (v,τ)else none
  |_,_=>none
 |none=>none
def oJ(P:Program)(E:aE)(code:N5):cO
 |fl,.inl f,args,σ=>match E f with
  |some g=>g fl args σ
  |none=>aAg P code fl f args σ
 |fl,.inr id,args,σ=>aAj code fl id args σ
def VI(id:Nat)(fr:List PD)(ms:List Nat)(σ:List U):Option PO:=
 match σ[id]? with
 |some (.loop .ready _ _ _ _)=>some ⟨.normal,fr,ms,σ.set id .none⟩
 |some (.loop (.done .ret) _ _ _ _)=>some ⟨.ret,fr,ms,σ.set id .none⟩
 |some (.loop (.done (.exit k)) _ _ _ _)=>some ⟨.exit k,fr,ms,σ.set id .none⟩
 |_=>none
def aCV(call:cO)(rd:Option Nat)(gf:FuncId)(cap:List PD)(ps:List Tmp)(assign body:Code)(fl:Nat)(fr:List PD)(ms:List Nat)(σ:List U):Option PO:=
 if fl<=σ.length then
  match rd with
  |none=>match call fl (.inl gf) (.yield (σ.length+1)::cap) (σ++[.mark]++[.loop .ready fr ps assign body])with
   |some (_,σ2)=>VI (σ.length+1) fr (σ.length::ms) σ2
   |none=>none
  |some l=>match σ[l]? with
   |some (.loop _ _ _ _ _)=>match call fl (.inl gf) (.yield σ.length::cap) (σ++[.loop .ready fr ps assign body])with
    |some (_,σ2)=>VI σ.length fr ms σ2
    |none=>none
   |_=>none
 else none
def gE(P:Program)(E:aE):Nat->N5
 |0=>λ_ _ _ _ _ _=>none
 |n+1=>λrd c fl fr ms σ=>
  match c with
  |.skip=>some ⟨.normal,fr,ms,σ⟩
  |.region _ ops false=>match VP P (oJ P E (gE P E n)) fl ops fr σ with
    |some (fr',σ')=>some ⟨.normal,fr',ms,σ'⟩
    |none=>match HS P E (oJ P E (gE P E n)) fl ops ops.toList fr σ with
     |some (v,fr',σ')=>some ⟨.panic v,fr',ms,σ'⟩
     |none=>none
  |.region _ ops true=>match pG P (oJ P E (gE P E n)) fl ops fr σ with
    |some (fr',σ')=>some ⟨.normal,fr',ms,σ'⟩
    |none=>match N3 P E fl ops fr σ with
     |some (v,τ)=>some ⟨.panic v,fr,ms,τ⟩
     |none=>none
  |.seq x y=>match gE P E n rd x fl fr ms σ with
    |some ⟨.normal,fr',ms',σ'⟩=>gE P E n rd y fl fr' ms' σ'
    |r=>r
  |.cond g x y=>match aT fr g with
    |some (.bool true)=>gE P E n rd x fl fr ms σ
    |some (.bool false)=>gE P E n rd y fl fr ms σ
    |_=>none
  |.block id b=>match gE P E n rd b fl fr ms σ with
    |some ⟨.exit k,fr',ms',σ'⟩=>some ⟨if k=id then .normal else .exit k,fr',ms',σ'⟩
    |r=>r
  |.loop b=>match gE P E n rd b fl fr ms σ with
    |some ⟨.normal,fr',ms',σ'⟩=>gE P E n rd (.loop b) fl fr' ms' σ'
    |r=>r
  |.rangeFunc g ps assign body=>match aT fr g with
    |some (.func gf cap)=>aCV (oJ P E (gE P E n)) rd gf cap ps.toList assign body fl fr ms σ
    |_=>none
  |.exit id=>some ⟨.exit id,fr,ms,σ⟩
  |.ret=>some ⟨.ret,fr,ms,σ⟩
  |_=>none
def bV(P:Program)(E:aE)(n:Nat):cO:=oJ P E (gE P E n)
end
section
open Go.RowKit
abbrev noP:Cx->List PanicEntry->World->Prop:=λ_ _ _=>False
def aAh(Pp:Cx->List PanicEntry->World->Prop)(fl:Nat)(c:Cx)(p:PD)(σ':List U):Ending->World->Prop
 |.returned v,w'=>Leaves fl c p σ' v w'
 |.panicked ch,w'=>Pp c ch w'
 |_,_=>False
abbrev JU(fl:Nat)(c:Cx)(p:PD)(σ':List U):Ending->World->Prop:=aAh noP fl c p σ'
structure Ok (F:Fence) (P:Program) (call:cO) (Pp:Cx->List PanicEntry->World->Prop:=noP):Prop where
 fn:∀ {fl:Nat} {f:FuncId} {args:Bw} {c:Cx} {vs:Bz} {p:PD} {σ':Bv},call fl (.inl f) args c.σ=some (p,σ')->Sr c->Xw fl c->aJ c vs args ->
  (∃fn,P.funcs[f]?=some fn/\fn.body.isSome=true)/\∀m,CallsIn F m P f vs.toArray c.w (aAh Pp fl c p σ')
 round:∀ {fl id l:Nat} {args:Bw} {c:Cx} {vs:Bz} {p:PD} {σ':Bv},call fl (.inr id) args c.σ=some (p,σ')->Sr c->Xw fl c->aJ c vs args->c.D id->c.ρ id=.pointer (some ⟨l,0,none⟩) ->
  ∃g tmps asg bd,(Instr.yield l vs.toArray).run P c.w=.ok (.round l g tmps asg bd) c.w/\∀m,RoundIn F m P l g tmps asg bd c.w (aAh Pp fl c p σ')
structure Open (F:Fence) (P:Program):Prop where
 fn:∀f,F.fn f
 depth:F.depth=none
 name:∀(f:FuncId) fn,P.funcs[f]?=some fn->(fn.name== "runtime.NumGoroutine")=false
 alive:F.alive=false
section
variable{F:Fence}{P:Program}{call:cO}{c:Cx}{fl n:Nat}{Q:Exit->Act->World->Prop}
theorem Open.asks(hF:Open F P):F.depth.isSome=true->1<=n:=by rw[hF.depth];intro h;cases h
theorem aC1{Pp:Cx->List PanicEntry->World->Prop}(hF:Open F P)(hc:Ok F P call Pp)(hs:Sr c)(hX:Xw fl c){a:Act}{fr:Bw}(hf:FR c a fr){o:Oper}{p:PD}{σ':Bv}
  (h:bI P call fl fr c.σ o.op=some (p,σ')) {K:Act->World->Prop} (hK:∀v w',Leaves fl c p σ' v w'->K (a.put o.dst v) w') (hR:∀ch w',Pp c ch w'->Q (.panic ch) a w':=by intro _ _ h;exact h.elim):o.wpIn F n P a c.w K Q:=by
 have hnd:∀d,o.op≠.defer d:=by
  intro d e;rw[e]at h;simp[bI,dI,pop,dD,cK]at h
 refine⟨λf _=>hF.fn f,?_⟩;rw[yCQ _ _ _ hnd];unfold bI at h;split at h
 .rename_i tg args htg;cases tg with
  |inl f=>
   obtain⟨vs0,aCY⟩:∃vs:List Value,aJ c vs args:=by
    exact bh
   obtain⟨⟨fn,hfn,hb⟩,_⟩:=hc.fn h hs hX aCY;obtain⟨vs,r,hvs⟩:=aHq (P:=P) hf htg hfn hb (hF.name f fn hfn);rw[r];refine⟨hF.asks,yBS ((hc.fn h hs hX hvs).2 _) λe w'' he=>?_⟩;exact kD
  |inr id=>
   obtain⟨l,vs,r,hvs,hd,hr⟩:=aPn (P:=P) hf htg;obtain⟨g,tmps,asg,bd,ry,hround⟩:=hc.round h hs hX hvs hd hr;rw[r,ry];refine⟨hF.asks,RoundIn.mono (hround _) λe w'' he=>?_⟩;exact kD
 .obtain⟨v,w',hy,hl⟩:=aPo (P:=P) hs hX hf h;rcases hy with hy | ⟨hy,rfl⟩
  .rw[hy];exact hK v w' hl
  .rw[hy];exact hK undef w' hl
theorem FR.put{a:Act}{fr:Bw}(hf:FR c a fr){v:Value}{p:PD}(hv:VR c v p)(dst:Option Tmp):FR c (a.put dst v) (aL fr dst p):=by
 cases dst with
 |none=>exact hf
 |some d=>
  refine⟨⟨by simpa [Act.put,aL]using hf.1.1,λi u q h1 h2=>?_⟩,hf.2⟩;simp only[Act.put,aL,yDD,yCs]at h1 h2
  by_cases e:d=i
  .subst e;simp only[yAM]at h1 h2;split at h1
   .split at h2
    .simp only[yAb]at h1 h2;subst h1 h2;exact hv
    .simp at h2
   .simp at h1
  .rw[yAI e]at h1 h2;exact hf.1.2 i u q h1 h2
theorem VR.undef(c:Cx):VR c undef (.aK []):=.aK [] [] rfl (λi v d h=>yp)
theorem VR.aHQ{v:Value}{p:PD}(h:VR c v p)(b:Bool):v=.bool b↔p=.bool b:=by
 constructor
 .rintro rfl
  cases h with
  |bool=>rfl
  |bL _ h=>cases h
 .rintro rfl;cases h;rfl
theorem aPp{a:Act}{fr:Bw}(hf:FR c a fr)(ops:Array Oper)(j:Nat):yielded ops a.tmps j=aY ops fr j:=by
 unfold yielded aY;cases hd:(ops[j]?).bind (·.dst)with
 |none=>rfl
 |some d=>
  simp only[yCT];have hl:=hf.1.1;rcases yBy d fr.length with hlt|hge
  .have hlt':d<a.tmps.toList.length:=by rw[hl];exact hlt
   have e1:a.tmps[d]?=some (a.tmps.toList[d]):=by rw[<-yCd];exact yAh hlt'
   have e2:fr[d]?=some fr[d]:=yAh hlt;have hv:=hf.1.2 d _ _ (yAh hlt') e2;rw[e1,e2];cases hx:fr[d]with
   |bool b=>rw[hx]at hv;rw[(hv.aHQ b).2 rfl]
   |_=>
    rw[hx]at hv;cases hy:a.tmps.toList[d]with
    |bool b=>rw[hy]at hv;have:=(hv.aHQ b).1 rfl;cases this
    |_=>rfl
  .have e1:a.tmps[d]?=none:=by rw[<-yCd];exact yBp (by rw[hl];exact hge)
   rw[e1,yBp hge]
theorem aC0{a:Act}{fr:Bw}(hf:FR c a fr)(ops:Array Oper)(o:Oper):Region.wanted o (yielded ops a.tmps)=Region.wanted o (aY ops fr):=by
 have:yielded ops a.tmps=aY ops fr:=funext λj=>aPp hf ops j
 rw[this]
theorem aHt(hF:Open F P)(hc:Ok F P call){ops:Cb}:∀(l:List Oper) (i:Nat) (_:ops.toList.drop i=l) {c:Cx} (_:Sr c) (_:Xw fl c) {a:Act} {fr:Bw} (_:FR c a fr) {fr':Bw} {σ':Bv}
  (_:dM P call fl ops l fr c.σ=some (fr',σ'))
  (_:∀c' a',c'.σ=σ'->Sr c'->Nx fl c c'->FR c' a' fr'->a'.defers=a.defers->Q .normal a' c'.w),wpOpsIn F n P ops Q (List.range' i l.length) a c.w:=by
 intro l
 induction l with
 |nil=>
  intro i _ c hs hX a fr hf fr' σ' h hQ;simp only[dM,yAb,yAc]at h;obtain⟨rfl,rfl⟩:=h;exact hQ c a rfl hs (.refl _ _) hf rfl
 |cons o rest ih=>
  intro i hdrop c hs hX a fr hf fr' σ' h hQ;have hi:i<ops.toList.length:=by
   exact ny
  have ho:ops[i]?=some o:=by
   exact kr
  have vN:ops.toList.drop (i+1)=rest:=by
   rw[<-yBk,hdrop];rfl
  simp only[yAK,yCy,wpOpsIn,ho];rw[aC0 hf];simp only[dM]at h;split at h
  .rename_i hw;rw[yAJ hw];split at h
   .rename_i p σ1 hst;refine aC1 hF hc hs hX hf hst λv w' hl=>?_
    exact ek
   .exact ah
  .exact ew
theorem aOU(hF:Open F P)(hc:Ok F P call){ops:Cb}{c:Cx}(hs:Sr c)(hX:Xw fl c){a:Act}{fr:Bw}(hf:FR c a fr){fr':Bw}{σ':Bv}
  (h:V1 P call fl ops ops.toList fr c.σ=some (fr',σ'))
  (hQ:∀c' a',c'.σ=σ'->Sr c'->Nx fl c c'->FR c' a' fr'->a'.defers=a.defers->Q .normal a' c'.w):wpOpsIn F n P ops Q (List.range' 0 ops.toList.length) a c.w:=by
 unfold V1 at h;split at h
 .rename_i d t len parts N7 pos1 N8 d2 s t' d' ty2 pos2 ed2 rest hops;split at h
  .rename_i e hu;split at h
   .rename_i he;split at h
    .rename_i hcond;obtain⟨hst,htt,hdd,hdl⟩:=hcond;subst hst;subst htt;subst hdd;split at h
     .rename_i ps hps;split at h
      .rename_i m xs hnew;obtain⟨a1,a2⟩:=aAr hf hps;obtain⟨e',cells',CV,hrun,hv⟩:=aHR hs (vparts:=parts.toList.map λq=>(q.1,a.eval q.2)) hnew (by simpa using a1) (λi jv jp h3 h4=>by
        rw[yAo]at h4;cases hx:ps[i]? with
        |none=>rw[hx]at h4;simp at h4
        |some x=>
         rw[hx]at h4;simp only[yAC,yAb]at h4;subst h4;exact⟨(a2 i jv x h3 hx).1,(a2 i jv x h3 hx).2.strip⟩)
       obtain rfl:e=e':=by rw[hu]at CV;simpa using CV
       have hgr:=aPq c.w e cells';obtain⟨fz,hfz⟩:=aPr c.w e cells';have hvr:=hv _ fz hgr hfz;have hmk:=run_mark (P:=P) c.w cells' len len hu he;have nx:Nx fl c (c.at ((c.w.alloc (.cells cells' e)).freeze ⟨c.w.heap.size,cells'.size,none⟩ 1)):=Nx.grow hs hgr;have hs':=Sr.grow hs hgr;obtain⟨v,hvd⟩:∃v:Value,v=.slice (some ⟨c.w.heap.size,0,none⟩) len len:=⟨_,rfl⟩;rw[<-hvd]at hrun hvr hmk;have pD:=((hf.mono nx).put hvr (some d')).put hvr d2;have h0:ops[0]?=some ⟨some d',.buildSlice t' len parts,N7,pos1,N8,none⟩:=by rw[<-yCd,hops];rfl
       have h1:ops[1]?=some ⟨d2,.convert t' t' (.tmp d'),ty2,pos2,ed2,none⟩:=by rw[<-yCd,hops];rfl
       have hlen:ops.toList.length=rest.length+2:=by rw[hops];rfl
       rw[hlen,yCy,yCy];simp only[wpOpsIn,h0,h1,yAp];rw[yAJ (show Region.wanted _ _=true from rfl)];refine⟨λf _=>hF.fn f,?_⟩;rw[yCQ _ _ _ (by intro d e;cases e)];have earr:(Array.map (λx=>match x with|(i,x)=>(i,a.eval x)) parts)=(parts.toList.map λq=>(q.1,a.eval q.2)).toArray:=yu;have KC:(execOp a.eval ⟨some d',.buildSlice t' len parts,N7,pos1,N8,none⟩).run P c.w=.ok (.value v) (c.w.alloc (.cells cells' e)):=by
        simp only[execOp,yAV];rw[earr,hrun];simp
       rw[KC];simp only[Oper.uponIn,Region.wanted,yAM];refine⟨λf _=>hF.fn f,?_⟩;rw[yCQ _ _ _ (by intro d e;cases e)];have hdt:d'<a.tmps.size:=by
        have h9:a.tmps.toList.length=_:=hf.1.1;rw[yCb]at h9;rw[h9];exact hdl
       have hev:(a.put (some d') v).eval (.tmp d')=v:=by simp[Act.eval,Act.put,hdt]
       have hr2:(execOp (a.put (some d') v).eval ⟨d2,.convert t' t' (.tmp d'),ty2,pos2,ed2,none⟩).run P (c.w.alloc (.cells cells' e))=.ok (.value v) ((c.w.alloc (.cells cells' e)).freeze ⟨c.w.heap.size,cells'.size,none⟩ 1):=by
        simp only[execOp,yAV];rw[hev,hmk];simp
       rw[hr2];exact aHt hF hc rest 2 (by rw[hops];rfl) hs' (hX.next hs nx) pD h (λKA lN e1 e2 e3 e4 e5=>hQ KA lN e1 e2 (nx.trans e3) e4 (e5.trans (by cases d2<;>rfl)))
      .cases h
     .cases h
    .cases h
   .cases h
  .cases h
 .cases h
end
end
section
open Go.RowKit
section
variable{P:Program}{fr fr':Bw}
theorem L8:∀(xs:List Operand),(∀x∈xs,aT fr x=aT fr' x)->iX fr xs=iX fr' xs
 | [],_=>rfl
 |x::xs,h=>by
  unfold iX;rw[h x wz,L8 xs λy hy=>h y Aw]
theorem aDg:∀(xs:List (Nat×Operand)),(∀x∈xs.map (·.2),aT fr x=aT fr' x)->rE fr xs=rE fr' xs
 | [],_=>rfl
 |(i,x)::xs,h=>by
  unfold rE;rw[h x wz,aDg xs λy hy=>h y (by simp only[yB,yAS];exact .inr hy)]
theorem aHD(op:Op)(h:∀x∈op.operands,aT fr x=aT fr' x):dD P fr op=dD P fr' op:=by
 cases op<;>simp only[Op.operands]at h<;>simp only[dD]
 case move x=>exact h x wz
 case assign x=>exact h x wz
 case pick a b c=>rw[h a wz,h b wz,h c wz]
 case binOp _ _ a b _=>rw[h a wz,h b wz]
 case unOp _ _ a=>rw[h a wz]
 case convert _ _ a=>rw[h a wz]
 case makeFunc fn first captured=>
  cases fn<;>simp only
  rw[L8 captured.toList λx hx=>h x (by simp only[Array.mem_append];exact .inr yj),L8 first.toList λx hx=>h x (by simp only[Array.mem_append];exact .inl yj)]
 case slice _ x lo hi mx=>
  have e:aT fr x=aT fr' x:=h x wz;have e1:lo.map (aT fr)=lo.map (aT fr'):=by cases lo with|none=>rfl|some y=>simp only[yAC];rw[h y wz]
  have e2:hi.map (aT fr)=hi.map (aT fr'):=by cases hi with|none=>rfl|some y=>simp only[yAC];rw[h y wz]
  have e3:mx.map (aT fr)=mx.map (aT fr'):=by cases mx with|none=>rfl|some y=>simp only[yAC];rw[h y wz]
  rw[e,e1,e2,e3]
 case fieldAddr _ a _=>rw[h a wz]
 case field _ a _=>rw[h a wz]
 case indexAddr _ a b=>rw[h a wz,h b wz]
 case index _ a b=>rw[h a wz,h b wz]
 case extract a _=>rw[h a wz]
 case nilCheck a=>rw[h a wz]
 case build _ ps=>rw[aDg ps.toList λx hx=>h x yj]
 case makeInterface _ a=>rw[h a wz]
 case typeAssert a _ _ b=>cases b<;>simp only;rw[h a wz]
 case call c=>
  obtain⟨callee,args,ts⟩:=c;cases callee<;>simp only
  rw[L8 args.toList λx hx=>h x yw]
theorem aAm{fl:Nat}{σ:Bv}(hl:fr.length=fr'.length)(op:Op)(h:∀x∈op.operands,aT fr x=aT fr' x):cK P fl fr σ op=cK P fl fr' σ op:=by
 cases op<;>simp only[Op.operands]at h<;>simp only[cK]
 case load _ a=>rw[h a wz]
 case store _ a b=>rw[h a wz,h b wz]
 case box _ a=>rw[h a wz]
 case convert _ _ a=>rw[h a wz]
 case makeSlice _ a b=>rw[h a wz,h b wz]
 case lookup _ a b _=>rw[h a wz,h b wz]
 case mapUpdate _ a b d=>rw[h a wz,h b wz,h d wz]
 case makeMap _ r=>cases r<;>rfl
 case buildSlice _ _ ps=>rw[aDg ps.toList λx hx=>h x yj]
 case call c=>
  obtain⟨callee,args,ts⟩:=c;cases callee<;>(try simp only)
  rename_i b;cases b<;>(try simp only)
  case append=>rw[L8 args.toList λx hx=>h x yw,hl]
  case copy=>rw[L8 args.toList λx hx=>h x yw]
  case clear=>rw[L8 args.toList λx hx=>h x yw]
theorem aPm(op:Op)(h:∀x∈op.operands,aT fr x=aT fr' x):dI fr op=dI fr' op:=by
 cases op<;>simp only[Op.operands]at h<;>simp only[dI]
 case call c=>
  obtain⟨callee,args,ts⟩:=c;cases callee<;>simp only
  rename_i g;rw[L8 args.toList λx hx=>h x (by simp[Call.operands];exact .inr (yBQ.1 hx)),h g (by simp[Call.operands])]
theorem aHE{call:cO}{fl:Nat}{σ:Bv}(hl:fr.length=fr'.length)(op:Op)(h:∀x∈op.operands,aT fr x=aT fr' x):bI P call fl fr σ op=bI P call fl fr' σ op:=by
 unfold bI pop;rw[aPm op h,aHD op h,aAm hl op h]
end
section
variable{c:Cx}{fl:Nat}
def Cx.mI(c:Cx)(w:World)(id:Nat)(v:Value):Cx:=
 { w:=w,ρ:=λi=>if i=id then v else c.ρ i,σ:=c.σ,D:=λi=>c.D i\/i=id,X:=c.X }
theorem lQ{w:World}{v:Value}{id i:Nat}(h:¬c.D id)(hd:c.D i):(c.mI w id v).ρ i=c.ρ i:=by
 have:i≠id:=by rintro rfl;exact h hd
 simp[Cx.mI,this]
theorem L6{w:World}{v:Value}{id:Nat}:(c.mI w id v).ρ id=v:=by simp[Cx.mI]
theorem Nv.mI{w':World}{v:Value}{id:Nat}{p:PD}(hn:¬c.D id)(ho:c.σ[id]?=some (.box p))(h:c.w.grownBy w' none)(hv:∀b,aV v=some b->c.w.heap.size<=b):Nv c (c.mI w' id v) where
 cell:=λa u ha hu=>by
  have hlt:=KH hu;refine⟨⟨ha.1,λi o' hd ho'=>?_⟩,by show w'.cell? a=some u;rw[yCj (h.block a.block hlt wz)];exact hu⟩;rcases hd with hd|rfl
  .rw[lQ hn hd];exact ha.2 i o' hd ho'
  .rw[L6];have:o'=.box p:=by
    have:c.σ[i]?=some o':=ho';rw[ho]at this;simpa using this.symm
   subst this;intro b hb e;have:=hv b hb;omega
 aW:=λ_ h=>.inl h
 tM:=λi p hd hp=>⟨lQ hn hd,p,hp⟩
 lP:=λi hd hk=>⟨lQ hn hd,hk⟩
 vR:=λi e s n hd hk=>⟨n,hk,yAk _,λ_=>lQ hn hd⟩
 vS:=λi e s v cs hd hk=>⟨v,cs,hk,yAk _,λ_=>lQ hn hd⟩
theorem Sr.mI{w':World}{id b:Nat}{p:PD}{cs:Ca}{T:TypeId}(hs:Sr c)(hn:¬c.D id)(ho:c.σ[id]?=some (.box p))(h:c.w.grownBy w' none)(hb:c.w.heap.size<=b)
  (hw:w'.heap[b]?=some (.cells cs T (0,0))) (hv:aJ c cs.toList p.cells) (h1:(∀v∈cs.toList,v.oneCell'=true)/\∀t ds,p=.typed t ds->T=t):Sr (c.mI w' id (.pointer (some ⟨b,0,none⟩))):=by
 have nv:Nv c (c.mI w' id (.pointer (some ⟨b,0,none⟩))):=Nv.mI hn ho h (λb' hb'=>by simp[aV]at hb';omega);have hgh:Gh (c.mI w' id (.pointer (some ⟨b,0,none⟩))):=λg hh=>by
  obtain⟨⟨cs',T',fz,e1,e2⟩,e3⟩:=hs.gU.2 g hh;refine⟨⟨cs',T',fz,by show w'.heap[g]?=_;rw[h.block g (fM e1) wz];exact e1,e2⟩,λi hd hb'=>?_⟩;rcases hd with hd|rfl
  .rw[lQ hn hd]at hb';exact e3 i hd hb'
  .rw[L6]at hb';simp[aV]at hb';have:=fM e1;omega
 refine⟨?_,?_,?_,?_,?_,?_,?_,?_,?_,?_,hs.gU.1.mJ nv,hgh⟩
 .intro i q hd hp;rcases hd with hd|rfl
  .obtain⟨b',cs',T',e1,e2,e3,e4⟩:=hs.box i q hd hp;exact⟨b',cs',T',(lQ hn hd).trans e1,by show w'.heap[b']?=_;rw[h.block b' (fM e2) wz];exact e2,e3.mJ nv,e4⟩
  .have:q=p:=by
    have h':c.σ[i]?=some (.box q):=hp;rw[ho]at h';simpa using h'.symm
   subst this;exact⟨b,cs,T,L6,hw,hv.mJ nv,h1⟩
 .intro i e size n hd hp;rcases hd with hd|rfl
  .obtain⟨xs,hx⟩:=hs.own i e size n hd hp;rw[lQ hn hd];exact⟨xs,L9 hx (λg hg=>h.block g (hs.lt i g hd hg) wz)⟩
  .have h':c.σ[i]?=some (.own e size n):=hp;rw[ho]at h';simp at h'
 .intro i e size ver ds hd hp;rcases hd with hd|rfl
  .obtain⟨b',C,cur,e1,e2,e3,e4,e5,e6,e7,e8⟩:=hs.row i e size ver ds hd hp;exact⟨b',C,cur,(lQ hn hd).trans e1,by show w'.heap[b']?=_;rw[h.block b' (fM e2) wz];exact e2,e3,e4,e5,e6,e7.mJ nv,e8⟩
  .have h':c.σ[i]?=some (.row e size ver ds):=hp;rw[ho]at h';simp at h'
 .intro i es hd hp;rcases hd with hd|rfl
  .obtain⟨b',ents,clock,e1,e2,e3,e4⟩:=hs.map i es hd hp;exact⟨b',ents,clock,(lQ hn hd).trans e1,by show w'.heap[b']?=_;rw[h.block b' (fM e2) wz];exact e2,e3.mJ nv,e4.mJ nv⟩
  .have h':c.σ[i]?=some (.map es):=hp;rw[ho]at h';simp at h'
 .intro i hd hm;rcases hd with hd|rfl
  .obtain⟨b',e1,e2⟩:=hs.mark i hd hm;exact⟨b',(lQ hn hd).trans e1,by show w'.heap[b']?=_;rw[h.block b' (fM e2) wz];exact e2⟩
  .have h':c.σ[i]?=some .mark:=hm;rw[ho]at h';simp at h'
 .intro i st fr ps asg bd hd hm;rcases hd with hd|rfl
  .obtain⟨b',r,e1,e2,e3,e4,e5,e6,e7⟩:=hs.loop i st fr ps asg bd hd hm;exact⟨b',r,(lQ hn hd).trans e1,by show w'.heap[b']?=_;rw[h.block b' (fM e2) wz];exact e2,e3,e4,e5,e6.mJ nv,e7⟩
  .have h':c.σ[i]?=some (.loop st fr ps asg bd):=hm;rw[ho]at h';simp at h'
 .intro i j b' hd hd' hne nV lR;rcases hd with hd|rfl
  .rw[lQ hn hd]at nV;rcases hd' with hd' | rfl
   .rw[lQ hn hd']at lR;exact hs.inj i j b' hd hd' hne nV lR
   .rw[L6]at lR;simp[aV]at lR;have:=hs.lt i b' hd nV;omega
  .rw[L6]at nV;simp[aV]at nV;rcases hd' with hd' | rfl
   .rw[lQ hn hd']at lR;have:=hs.lt j b' hd' lR;omega
   .exact hne rfl
 .intro i b' hd nV;rcases hd with hd|rfl
  .rw[lQ hn hd]at nV;exact yBM (hs.lt i b' hd nV) h.size
  .rw[L6]at nV;simp[aV]at nV;subst nV;exact fM hw
 .intro i hd;rcases hd with hd|rfl
  .exact hs.aW i hd
  .exact(yA.1 ho).1
 .exact λa ha=>hs.fresh a (yBd h.size ha)
theorem Nx.mI{c0:Cx}{w':World}{v:Value}{id:Nat}{p:PD}(n0:Nx fl c0 c)(hn:¬c.D id)(ho:c.σ[id]?=some (.box p))(h:c.w.grownBy w' none)(hv:∀b,aV v=some b->c.w.heap.size<=b)
  (hid:c0.σ.length<=id):Nx fl c0 (c.mI w' id v) where
 X:=n0.X
 os:=h.os.trans n0.os
 tape:=h.tape.trans n0.tape
 output:=h.output.trans n0.output
 size:=yBd n0.size h.size
 len:=n0.len
 cell:=λa u ha hu=>let ⟨q1,q2⟩:=n0.cell a u ha hu;(Nv.mI hn ho h hv).cell a u q1 q2
 aW:=λi hd=>.inl (n0.aW i hd)
 new:=λi hd=>by rcases hd with hd|rfl;exact n0.new i hd;exact .inr hid
 tM:=λi q hd hq=>by
  obtain⟨e,q',mY⟩:=n0.tM i q hd hq;exact⟨(lQ hn (n0.aW i hd)).trans e,q',mY⟩
 lP:=λi hd hk=>by
  obtain⟨e,hk'⟩:=n0.lP i hd hk;exact⟨(lQ hn (n0.aW i hd)).trans e,hk'⟩
 vR:=λi e s n hd hk=>by
  obtain⟨n',h1,h2,h3⟩:=n0.vR i e s n hd hk;exact⟨n',h1,h2,λhh=>(lQ hn (n0.aW i hd)).trans (h3 hh)⟩
 vS:=λi e s v cs hd hk=>by
  obtain⟨v0,cs0,h1,h2,h3⟩:=n0.vS i e s v cs hd hk;exact⟨v0,cs0,h1,h2,λhh=>(lQ hn (n0.aW i hd)).trans (h3 hh)⟩
 back:=λi b hd hb hlt=>by
  rcases hd with hd|rfl
  .rw[lQ hn hd]at hb;exact n0.back i b hd hb hlt
  .rw[L6]at hb;have:=hv b hb;have:=n0.size;omega
 frame:=λk hk hx=>(h.block k (yBM hk n0.size) wz).trans (n0.frame k hk hx)
 ro:=n0.ro
 hole:=n0.hole
def Cx.ahead(c:Cx)(l:List U):Cx:={ c with σ:=c.σ++l }
theorem vT{l:Bv}{id:Nat}(h:id<c.σ.length):(c.ahead l).σ[id]?=c.σ[id]?:=by simp[Cx.ahead,yAg h]
theorem Nx.ahead(hs:Sr c)(l:List U):Nx fl c (c.ahead l) where
 X:=rfl
 os:=rfl
 tape:=rfl
 output:=rfl
 size:=yAk _
 len:=by simp[Cx.ahead]
 cell:=λa v ha hv=>⟨⟨ha.1,λid o hd ho=>ha.2 id o hd (by rw[vT (hs.aW id hd)]at ho;exact ho)⟩,hv⟩
 aW:=λ_ h=>h
 new:=λ_ h=>.inl h
 tM:=λid p hd h=>⟨rfl,p,Ax⟩
 lP:=λid hd h=>⟨rfl,Ax⟩
 vR:=λid e s n hd h=>⟨n,Ax,yAk _,λ_=>rfl⟩
 vS:=λid e s v cs hd h=>⟨v,cs,by rw[vT (hs.aW id hd)]at h;exact h,yAk _,λ_=>rfl⟩
 back:=λ_ _ h h' _=>⟨h,h'⟩
 frame:=λ_ _ _=>rfl
 ro:=λid _ h=>vT h
 hole:=λid h _=>vT h
theorem Sr.ahead(hs:Sr c)(l:List U):Sr (c.ahead l) where
 box:=λid p hd hp=>by
  rw[vT (hs.aW id hd)]at hp;obtain⟨b,cs,T,e1,e2,e3,e4⟩:=hs.box id p hd hp;exact⟨b,cs,T,e1,e2,e3.mono (Nx.ahead (fl:=0) hs l),e4⟩
 own:=λid e size n hd ho=>by rw[vT (hs.aW id hd)]at ho;exact hs.own id e size n hd ho
 row:=λid e size ver ds hd ho=>by
  rw[vT (hs.aW id hd)]at ho;obtain⟨b,C,cur,e1,e2,e3,e4,e5,e6,e7,e8⟩:=hs.row id e size ver ds hd ho;exact⟨b,C,cur,e1,e2,e3,e4,e5,e6,e7.mono (Nx.ahead (fl:=0) hs l),e8⟩
 map:=λid es hd ho=>by
  rw[vT (hs.aW id hd)]at ho;obtain⟨b,ents,clock,e1,e2,e3,e4⟩:=hs.map id es hd ho;exact⟨b,ents,clock,e1,e2,e3.mono (Nx.ahead (fl:=0) hs l),e4.mono (Nx.ahead (fl:=0) hs l)⟩
 mark:=λid hd hm=>by rw[vT (hs.aW id hd)]at hm;exact hs.mark id hd hm
 loop:=λid st fr ps asg bd hd hl=>by
  rw[vT (hs.aW id hd)]at hl;obtain⟨b,r,e1,e2,e3,e4,e5,e6,e7⟩:=hs.loop id st fr ps asg bd hd hl;exact⟨b,r,e1,e2,e3,e4,e5,e6.mono (Nx.ahead (fl:=0) hs l),e7⟩
 inj:=hs.inj
 lt:=hs.lt
 aW:=λid hd=>by have:=hs.aW id hd;simp[Cx.ahead];omega
 fresh:=hs.fresh
 gU:=hs.gU.mono (Nx.ahead (fl:=0) hs l)
end
end
section
open Go.RowKit
theorem aPl{acc:List Nat}{o:Oper}{k:Nat}(h:(HO acc o).testBit k=true) :
  ∃e∈o.after,Region.binds .any e=true/\(e.on=k\/(acc.getD e.on 0).testBit k=true):=by
 have key:∀(l:List Edge) (s:Nat),(l.foldl (λs e=>if Region.binds .any e then s ||| 2^e.on ||| acc.getD e.on 0 else s) s).testBit k=true ->
   s.testBit k=true\/∃e∈l,Region.binds .any e=true/\(e.on=k\/(acc.getD e.on 0).testBit k=true):=by
  intro l
  induction l with
  |nil=>intro s h;exact .inl h
  |cons e l ih=>
   intro s h;simp only[yCR]at h;rcases ih _ h with h1 | ⟨e',h2,h3⟩
   .split at h1
    .rename_i hb;simp only[Nat.testBit_or,Nat.testBit_two_pow,yBf,yBx]at h1;rcases h1 with(h1|h1)|h1
     .exact .inl h1
     .exact .inr ⟨e,wz,hb,.inl h1⟩
     .exact .inr ⟨e,wz,hb,.inr h1⟩
    .exact .inl h1
   .exact .inr ⟨e',by simp[h2],h3⟩
 rcases key _ _ h with h1 | ⟨e,h2,h3⟩
 .simp at h1
 .exact⟨e,yBQ.1 h2,h3⟩
theorem aDd:∀(l:List Oper) (acc:List Nat),(cA l acc).take acc.length=acc
 | [],acc=>by simp[cA]
 |o::r,acc=>by
  have:=aDd r (acc++[HO acc o]);simp only[cA];have h2:acc.length<=(acc++[HO acc o]).length:=wz;have h3:=yAP (List.take acc.length) this;rw[List.take_take,yDl h2]at h3;rw[h3];simp
theorem aHM:∀(l:List Oper) (acc:List Nat) (i:Nat),(cA l acc)[acc.length+i]?=(l[i]?).map λo=>HO ((cA l acc).take (acc.length+i)) o
 | [],acc,i=>by simp[cA]
 |o::r,acc,0=>by
  have h1:=aDd (o::r) acc;have h2:=aDd r (acc++[HO acc o]);simp only[yBU,h1,yBv,yAC];have h3:(cA (o::r) acc)[acc.length]?=((cA r (acc++[HO acc o])).take (acc++[HO acc o]).length)[acc.length]?:=by
   rw[yAv,yAJ wz];rfl
  rw[h3,h2];simp
 |o::r,acc,i+1=>by
  have:=aHM r (acc++[HO acc o]) i;simp only[yAa,yBb]at this;simp only[cA,yBL];rw[show acc.length+(i+1)=acc.length+1+i by omega];exact this
section
variable{ops:Cb}
theorem aDe{i k:Nat}(h:((cA ops.toList []).getD i 0).testBit k=true) :
  ∃o,ops[i]?=some o/\∃e∈o.after,Region.binds .any e=true/\(e.on=k\/(((cA ops.toList []).take i).getD e.on 0).testBit k=true):=by
 have h1:=aHM ops.toList [] i;simp only[yAL,yAp,yCd]at h1;rw[yAA,h1]at h;cases ho:ops[i]? with
 |none=>rw[ho]at h;simp at h
 |some o=>
  rw[ho]at h;simp only[yAC,yBY]at h;exact⟨o,rfl,aPl h⟩
theorem aDf{l:List Nat}{i j:Nat}(h:j<i):(l.take i).getD j 0=l.getD j 0:=by
 simp[yAA,h]
structure rG (ops:Array Oper) (ms:List Nat):Prop where
 a1g:Region.noSelect ops=true
 shape:∀(i:Nat) (o:Oper),ops[i]?=some o->(cW o.op||dA o.op||bZ o.op||iW o.op||cX o.op)=true
 once:∀(i:Nat) (o:Oper) (j:Nat) (oj:Oper) (d:Tmp),ops[i]?=some o->ops[j]?=some oj->j≠i->oj.dst=some d->o.dst≠some d
 looks:∀(i:Nat) (o:Oper) (j:Nat) (oj:Oper) (d:Tmp),ops[i]?=some o->ops[j]?=some oj->j≠i->oj.dst=some d->d∈o.looksAt ops ->
  (j<i->∃e∈o.after,Region.binds .any e=true/\e.on=j)/\(i<j->∃e∈oj.after,Region.binds .any e=true/\e.on=i)
 down:∀(i:Nat) (o:Oper),ops[i]?=some o->∀e∈o.after,Region.binds .any e=true->e.on<i
 ord:∀(i:Nat) (o:Oper) (j:Nat) (oj:Oper),ops[i]?=some o->ops[j]?=some oj->cX o.op=true->cX oj.op=true->j<i->(ms.getD i 0).testBit j=true
theorem aAn{f:Op->Bool}{i:Nat}{o:Oper}(h:ops[i]?=some o):eN f ops.toList i=f o.op:=by
 simp[eN,h]
theorem oN{i:Nat}{o:Oper}(h:ops[i]?=some o):i<ops.size:=(yDh.1 h).1
theorem JY{ms:List Nat}(h:JX ops ms=true):rG ops ms:=by
 simp only[JX,yAr,yAn,yAZ]at h;obtain⟨h0,h⟩:=h;have at':∀(i:Nat) (o:Oper),ops[i]?=some o->_:=λi o ho=>by
  have:=h i (oN ho);simp only[ho,yAr]at this;exact this
 have ssa:∀(i:Nat) (o:Oper) (j:Nat) (oj:Oper) (d:Tmp),ops[i]?=some o->ops[j]?=some oj->j≠i->oj.dst=some d->_:=λi o j oj d ho hoj hne hd=>by
  have:=(at' i o ho).1.1.2;simp only[aHN,yAn,yAZ]at this;have:=this j (oN hoj);simp only[hoj,hd,yBf,yBA,hne,false_or,yAr]at this;exact this
 refine⟨h0,λi o ho=>(at' i o ho).1.1.1,?_,?_,?_,?_⟩
 .intro i o j oj d ho hoj hne hd;simpa using(ssa i o j oj d ho hoj hne hd).1
 .intro i o j oj d ho hoj hne hd hl;have:=(ssa i o j oj d ho hoj hne hd).2;simp only[yBm,List.contains_eq_mem,decide_eq_false_iff_not,hl,yBt,false_or]at this;refine⟨λhlt=>?_,λhlt=>?_⟩
  .rw[yAJ hlt]at this;exact mu
  .rw[yAI xb]at this;exact mu
 .intro i o ho e he hb;have:=Array.all_eq_true'.1 (at' i o ho).1.2 e he;simpa [hb]using this
 .intro i o j oj ho hoj hw hwj hlt;have:=(at' i o ho).2;simp only[hw,yBw,yBX,yAn,yAZ]at this;have:=this j hlt;rw[aAn hoj,hwj]at this;exact bn
def Lt(listed:Array Bool)(i:Nat):Prop:=listed[i]?=some true
def aAo(ops:Array Oper)(S:Nat->Prop):Prop:=∀(i:Nat) (o:Oper),S i->ops[i]?=some o->∀e∈o.after,Region.binds .any e=true->S e.on
theorem aHG(hr:∀(i:Nat) (o:Oper),ops[i]?=some o->∀e∈o.after,Region.binds .any e=true->e.on<i):∀(i k:Nat),((cA ops.toList []).getD i 0).testBit k=true->k<i:=by
 intro i
 induction i using Nat.strongRecOn with
 |_ i ih=>
  intro k h;obtain⟨o,ho,e,he,hb,h⟩:=aDe h;have hlt:=hr i o ho e he hb;rcases h with rfl|h
  .exact hlt
  .rw[aDf hlt]at h;exact Nat.lt_trans (ih _ hlt _ h) hlt
theorem aHH(hr:∀(i:Nat) (o:Oper),ops[i]?=some o->∀e∈o.after,Region.binds .any e=true->e.on<i){S:Nat->Prop}(hS:aAo ops S):∀(i k:Nat),S i->((cA ops.toList []).getD i 0).testBit k=true->S k:=by
 intro i
 induction i using Nat.strongRecOn with
 |_ i ih=>
  intro k hi h;obtain⟨o,ho,e,he,hb,h⟩:=aDe h;have hlt:=hr i o ho e he hb;have hs:=hS i o hi ho e he hb;rcases h with rfl|h
  .exact hs
  .rw[aDf hlt]at h;exact ih _ hlt _ hs h
theorem aHC(hr:∀(i:Nat) (o:Oper),ops[i]?=some o->∀e∈o.after,Region.binds .any e=true->e.on<i){S:Nat->Prop}(hS:aAo ops S){i k:Nat}{o:Oper}(ho:ops[i]?=some o)
  (hi:∀e∈o.after,Region.binds .any e=true->S e.on) (h:((cA ops.toList []).getD i 0).testBit k=true):S k:=by
 obtain⟨o',ho',e,he,hb,h⟩:=aDe h;rw[ho]at ho';simp only[yAb]at ho';subst ho';have hlt:=hr i o ho e he hb;rcases h with rfl|h
 .exact hi e he hb
 .rw[aDf hlt]at h;exact aHH hr hS _ _ (hi e he hb) h
structure mW (ops:Array Oper) (ps:Nat->PD) (gY:List PD) (S:Nat->Prop) (fr:List PD):Prop where
 len:fr.length=gY.length
 slot:∀x,(∃(j:Nat) (o:Oper),ops[j]?=some o/\S j/\o.dst=some x/\(x<gY.length->fr[x]?=some (ps j)))\/((∀(j:Nat) (o:Oper),ops[j]?=some o->S j->o.dst≠some x)/\fr[x]?=gY[x]?)
variable{ps:Nat->PD}{gY fr fr':Bw}{S T:Nat->Prop}
theorem mW.start(h:∀j,¬S j):mW ops ps gY S gY:=⟨rfl,λ_=>.inr ⟨λj _ _ hj=>absurd hj (h j),rfl⟩⟩
theorem mW.aO7(h:mW ops ps gY S fr){d:Nat}(hd:∀o∈ops,o.dst≠some d):fr[d]?=gY[d]?:=by
 rcases h.slot d with⟨j,o,ho,_,he,_⟩ | ⟨_,e⟩
 .exact absurd he (hd o (yCI ho))
 .exact e
theorem mW.congr(h:mW ops ps gY S fr)(hST:∀j,S j↔T j):mW ops ps gY T fr:=
 ⟨h.len,λx=>(h.slot x).imp (λ⟨j,o,a,b,r⟩=>⟨j,o,a,(hST j).1 b,r⟩) (λ⟨a,b⟩=>⟨λj o ho hj=>a j o ho ((hST j).2 hj),b⟩)⟩
theorem mW.put{ms:List Nat}(hr:rG ops ms)(h:mW ops ps gY S fr){i:Nat}{o:Oper}(ho:ops[i]?=some o):mW ops ps gY (λj=>S j\/j=i) (aL fr o.dst (ps i)):=by
 cases hd:o.dst with
 |none=>
  refine⟨h.len,λx=>(h.slot x).imp (λ⟨j,o',a,b,r⟩=>⟨j,o',a,.inl b,r⟩) (λ⟨a,b⟩=>⟨λj o' ho' hj=>?_,b⟩)⟩;rcases hj with hj|rfl
  .exact a j o' ho' hj
  .rw[ho]at ho';simp only[yAb]at ho';subst ho';rw[hd];simp
 |some d=>
  refine⟨by simpa [aL]using h.len,λx=>?_⟩
  by_cases e:x=d
  .subst e;exact .inl ⟨i,o,ho,.inr rfl,hd,λhx=>by simp[aL,yCs,h.len,hx]⟩
  .have hne:(aL fr (some d) (ps i))[x]?=fr[x]?:=by simp[aL,yAd (yBc e)]
   rw[hne];refine(h.slot x).imp (λ⟨j,o',a,b,r⟩=>⟨j,o',a,.inl b,r⟩) (λ⟨a,b⟩=>⟨λj o' ho' hj=>?_,b⟩);rcases hj with hj|rfl
   .exact a j o' ho' hj
   .rw[ho]at ho';simp only[yAb]at ho';subst ho';rw[hd];simpa using yBc e
theorem mW.agree{ms:List Nat}(hr:rG ops ms)(h:mW ops ps gY S fr)(h':mW ops ps gY T fr'){x:Nat}(hx:∀(j:Nat) (o:Oper),ops[j]?=some o->o.dst=some x->(S j↔T j)):fr[x]?=fr'[x]?:=by
 rcases h.slot x with⟨j,o,ho,hj,hd,hv⟩ | ⟨hno,hv⟩
 .rcases h'.slot x with⟨j',o',ho',hj',hd',kR⟩ | ⟨aHO,kR⟩
  .have:j'=j:=by
    rcases Nat.decEq j' j with hne|heq
    .exact absurd hd (hr.once j o j' o' x ho ho' hne hd')
    .exact heq
   subst this;rcases yBy x gY.length with hlt|hge
   .rw[hv hlt,kR hlt]
   .rw[yBp (by rw[h.len];exact hge),yBp (by rw[h'.len];exact hge)]
  .exact absurd hd (aHO j o ho ((hx j o ho hd).1 hj))
 .rcases h'.slot x with⟨j',o',ho',hj',hd',kR⟩ | ⟨aHO,kR⟩
  .exact absurd hd' (hno j' o' ho' ((hx j' o' ho' hd').2 hj'))
  .rw[hv,kR]
theorem mW.same{ms:List Nat}(hr:rG ops ms)(h:mW ops ps gY S fr)(h':mW ops ps gY T fr')(hx:∀(j:Nat) (o:Oper),ops[j]?=some o->(S j↔T j)):fr=fr':=
 yBT λ_=>h.agree hr h' λj o ho _=>hx j o ho
def fH(ops:List Oper)(i:Nat):Nat:=((ops.take i).filter λo=>bZ o.op).length
theorem aAq{l:List Oper}{i:Nat}{o:Oper}(h:l[i]?=some o):fH l (i+1)=fH l i+if bZ o.op then 1 else 0:=by
 unfold fH;rw[List.take_add_one,h];simp only[Option.toList_some,List.filter_append,yAa]
 congr 1
 by_cases hs:bZ o.op=true<;>simp[hs]
theorem aHP{l:List Oper}{i j:Nat}(h:i<=j):fH l i<=fH l j:=by
 unfold fH;have:l.take i=(l.take j).take i:=by rw[List.take_take,yDl h]
 rw[this];exact((List.take_sublist i (l.take j)).filter _).length_le
theorem aPa{l:List Oper}{i j:Nat}{o oj:Oper}(hi:l[i]?=some o)(hj:l[j]?=some oj)(hs:bZ o.op=true)(hsj:bZ oj.op=true)(hne:i≠j):fH l i≠fH l j:=by
 rcases Nat.lt_or_gt_of_ne hne with h|h
 .have:=aHP (l:=l) (Nat.succ_le_of_lt h);rw[Nat.succ_eq_add_one,aAq hi,yAJ hs]at this;omega
 .have:=aHP (l:=l) (Nat.succ_le_of_lt h);rw[Nat.succ_eq_add_one,aAq hj,yAJ hsj]at this;omega
theorem aDa{P:Program}:∀ {l:List Oper} {hs:Bv},kN P l=some hs->∀(i:Nat) (o:Oper) (t:TypeId),l[i]?=some o->o.op=.alloc t ->
  ∃z,dS P t=some z/\z.cells.all PD.plain=true/\hs[fH l i]?=some (.box (boxed t z))
 | [],hs,h,i,o,t,hi,_=>by simp at hi
 |o'::r,hs,h,0,o,t,hi,ht=>by
  simp only[yBv,yAb]at hi;subst hi;unfold kN at h;rw[ht]at h;simp only at h;split at h
  .rename_i p l hp hl;split at h
   .rename_i hpl;simp only[yAb]at h;subst h;exact⟨p,hp,hpl,by simp[fH]⟩
   .exact ah
  .exact ah
 |o'::r,hs,h,i+1,o,t,hi,ht=>by
  simp only[yBL]at hi;unfold kN at h;split at h
  .rename_i t' ht';split at h
   .rename_i p l hp hl;split at h
    .rename_i hpl;simp only[yAb]at h;subst h;obtain⟨z,h1,h2,h3⟩:=aDa hl i o t hi ht;refine⟨z,h1,h2,?_⟩;have:fH (o'::r) (i+1)=fH r i+1:=by simp[fH,ht',bZ]
     rw[this,yBL];exact h3
    .exact ah
   .exact ah
  .rename_i hne;obtain⟨z,h1,h2,h3⟩:=aDa h i o t hi ht;refine⟨z,h1,h2,?_⟩;have hna:bZ o'.op=false:=by
    cases ho:o'.op<;>first|rfl|exact absurd ho (hne _)
   have:fH (o'::r) (i+1)=fH r i:=by simp[fH,hna]
   rw[this];exact h3
structure V0 (P:Program) (call:cO) (fl:Nat) (ops:Array Oper) (ms:List Nat) (k0:Nat) (frs:Nat->List PD) (σs:Nat->List U) (ps:Nat->PD) (ft:Nat->Option Nat) (z:Nat->Bool) (i:Nat) (o:Oper):Prop where
 put:frs (i+1)=aL (frs i) o.dst (ps i)
 run:Region.wanted o (aY ops (frs i))=true->eA P call fl (z i) (k0+fH ops.toList i) (frs i) (σs i) o.op=some (ps i,σs (i+1))/\ft i=mT (frs i) o.op
 skip:Region.wanted o (aY ops (frs i))=false->ps i=.aK []/\σs (i+1)=σs i
theorem aPe{P:Program}{call:cO}{fl k0:Nat}{ms:List Nat}:∀(l:List Oper) (i k:Nat) (fr:List PD) (σ:List U) (tr:List TE) (fr':List PD) (σ':List U),ops.toList.drop i=l->k=k0+fH ops.toList i ->
  fY P call fl ops ms i k l fr σ=some (tr,fr',σ')->∃(frs:Nat->List PD) (σs:Nat->List U) (ps:Nat->PD) (ft:Nat->Option Nat),frs i=fr/\σs i=σ/\frs (i+l.length)=fr'/\σs (i+l.length)=σ' /\
   (∀(j:Nat) (o:Oper),i<=j->ops[j]?=some o->V0 P call fl ops ms k0 frs σs ps ft (λi=>j9 ops.toList ms i) j o)/\(∀j,i<=j->j<i+l.length->ft j=(tr[j-i]?).bind TE.jW):=by
 intro l
 induction l with
 |nil=>
  intro i k fr σ tr fr' σ' hdrop hk h;simp only[fY,yAb,yAc]at h;obtain⟨rfl,rfl,rfl⟩:=h;refine⟨λ_=>fr,λ_=>σ,λ_=>default,λ_=>none,rfl,rfl,rfl,rfl,λj o hj ho=>?_,λj h1 h2=>absurd h2 xw⟩;exact og
 |cons o rest ih=>
  intro i k fr σ tr fr' σ' hdrop hk h;have ho:ops[i]?=some o:=by
   exact uo
  have vN:ops.toList.drop (i+1)=rest:=by rw[<-yBk,hdrop];rfl
  have hk':(if bZ o.op then k+1 else k)=k0+fH ops.toList (i+1):=by
   rw[aAq yz,hk];split<;>omega
  simp only[fY]at h;have lift:∀(p:PD) (σ1:List U) (jW:Option Nat) (mX:List TE),fY P call fl ops ms (i+1) (if bZ o.op then k+1 else k) rest (aL fr o.dst p) σ1=some (mX,fr',σ') ->
    tr=⟨fr,σ,p,jW⟩::mX->(Region.wanted o (aY ops fr)=true->eA P call fl (j9 ops.toList ms i) (k0+fH ops.toList i) fr σ o.op=some (p,σ1)/\jW=mT fr o.op) ->
    (Region.wanted o (aY ops fr)=false->p=.aK []/\σ1=σ)->∃(frs:Nat->List PD) (σs:Nat->List U) (ps:Nat->PD) (ft:Nat->Option Nat),frs i=fr/\σs i=σ/\frs (i+(o::rest).length)=fr'/\σs (i+(o::rest).length)=σ' /\
   (∀(j:Nat) (o:Oper),i<=j->ops[j]?=some o->V0 P call fl ops ms k0 frs σs ps ft (λi=>j9 ops.toList ms i) j o)/\(∀j,i<=j->j<i+(o::rest).length->ft j=(tr[j-i]?).bind TE.jW):=by
   intro p σ1 jW mX h1 htr hrun hskip;obtain⟨frs,σs,ps,ft,e1,e2,e3,e4,h5,h6⟩:=ih (i+1) _ _ _ _ _ _ vN hk' h1;refine⟨λj=>if j=i then fr else frs j,λj=>if j=i then σ else σs j,λj=>if j=i then p else ps j,λj=>if j=i then jW else ft j,wz,wz,?_,?_,?_,?_⟩
   .exact jo
   .exact jq
   .intro j oj hj hoj
    by_cases e:j=i
    .exact cv
    .have h7:=h5 j oj xb hoj;have hne:j+1≠i:=xb;refine⟨?_,?_,?_⟩
     .simp only[yAI e,yAI hne];exact h7.put
     .simp only[yAI e,yAI hne];exact h7.run
     .simp only[yAI e,yAI hne];exact h7.skip
   .exact gq
  exact ug
theorem aPf{P:Program}{call:cO}{fl k0:Nat}{ms:List Nat}:∀(l:List Oper) (i k:Nat) (fr:List PD) (σ:List U) (tr:List TE) (fr':List PD) (σ':List U),ops.toList.drop i=l->k=k0+fH ops.toList i ->
  oO P call fl ops i k l fr σ=some (tr,fr',σ')->∃(frs:Nat->List PD) (σs:Nat->List U) (ps:Nat->PD) (ft:Nat->Option Nat),frs i=fr/\σs i=σ/\frs (i+l.length)=fr'/\σs (i+l.length)=σ' /\
   (∀(j:Nat) (o:Oper),i<=j->ops[j]?=some o->V0 P call fl ops ms k0 frs σs ps ft (λ_=>true) j o)/\(∀j,i<=j->j<i+l.length->ft j=(tr[j-i]?).bind TE.jW)/\(∀j,i<=j->σs j=TE.at tr σ' (j-i)):=by
 intro l
 induction l with
 |nil=>
  intro i k fr σ tr fr' σ' hdrop hk h;simp only[oO,yAb,yAc]at h;obtain⟨rfl,rfl,rfl⟩:=h;refine⟨λ_=>fr,λ_=>σ,λ_=>default,λ_=>none,rfl,rfl,rfl,rfl,λj o hj ho=>?_,λj h1 h2=>absurd h2 xw,λj _=>by simp[TE.at]⟩;exact og
 |cons o rest ih=>
  intro i k fr σ tr fr' σ' hdrop hk h;have ho:ops[i]?=some o:=by
   exact uo
  have vN:ops.toList.drop (i+1)=rest:=by rw[<-yBk,hdrop];rfl
  have hk':(if bZ o.op then k+1 else k)=k0+fH ops.toList (i+1):=by
   rw[aAq yz,hk];split<;>omega
  simp only[oO]at h;have lift:∀(p:PD) (σ1:List U) (jW:Option Nat) (mX:List TE),oO P call fl ops (i+1) (if bZ o.op then k+1 else k) rest (aL fr o.dst p) σ1=some (mX,fr',σ') ->
    tr=⟨fr,σ,p,jW⟩::mX->(Region.wanted o (aY ops fr)=true->eA P call fl (true) (k0+fH ops.toList i) fr σ o.op=some (p,σ1)/\jW=mT fr o.op) ->
    (Region.wanted o (aY ops fr)=false->p=.aK []/\σ1=σ)->∃(frs:Nat->List PD) (σs:Nat->List U) (ps:Nat->PD) (ft:Nat->Option Nat),frs i=fr/\σs i=σ/\frs (i+(o::rest).length)=fr'/\σs (i+(o::rest).length)=σ' /\
   (∀(j:Nat) (o:Oper),i<=j->ops[j]?=some o->V0 P call fl ops ms k0 frs σs ps ft (λ_=>true) j o)/\(∀j,i<=j->j<i+(o::rest).length->ft j=(tr[j-i]?).bind TE.jW)/\(∀j,i<=j->σs j=TE.at tr σ' (j-i)):=by
   intro p σ1 jW mX h1 htr hrun hskip;obtain⟨frs,σs,ps,ft,e1,e2,e3,e4,h5,h6,h7⟩:=ih (i+1) _ _ _ _ _ _ vN hk' h1;refine⟨λj=>if j=i then fr else frs j,λj=>if j=i then σ else σs j,λj=>if j=i then p else ps j,λj=>if j=i then jW else ft j,wz,wz,?_,?_,?_,?_,?_⟩
   .exact jo
   .exact jq
   .intro j oj hj hoj
    by_cases e:j=i
    .exact cv
    .have h8:=h5 j oj xb hoj;have hne:j+1≠i:=xb;refine⟨?_,?_,?_⟩
     .simp only[yAI e,yAI hne];exact h8.put
     .simp only[yAI e,yAI hne];exact h8.run
     .simp only[yAI e,yAI hne];exact h8.skip
   .exact gq
   .intro j hj
    by_cases e:j=i
    .subst e;simp[htr,TE.at]
    .simp only[yAI e];rw[h7 j xb,htr,show j-i=(j-(i+1))+1 by omega];simp[TE.at]
  exact ug
end
end
section
open Go.RowKit
section
variable{P:Program}{call:cO}{fl k:Nat}{free:Bool}{fr:Bw}{σ σ':Bv}{op:Op}{p:PD}
theorem VO(h:dA op=true\/iW op=true\/eO op=true):dD P fr op=none/\dI fr op=none/\cW op=false/\bZ op=false/\cI op=false:=by
 by_cases hc:∃s d x,op=.convert s d x
 .obtain⟨s,d,x,rfl⟩:=hc;have ht:NR s d=true:=by rcases h with h|h|h<;>first|exact h|cases h
  exact⟨by simp only[dD,ht,yAM],rfl,by simp only[cW,ht,yBw],rfl,rfl⟩
 cases op<;>simp[dA,iW,eO]at h hc<;>simp[dD,dI,cW,bZ,cI]
theorem aHn(h:cW op=true):dI fr op=none/\bZ op=false/\cX op=false/\dA op=false:=by
 by_cases hc:∃s d x,op=.convert s d x
 .obtain⟨s,d,x,rfl⟩:=hc;have ht:NR s d=false:=by simpa only[cW,yBm]using h
  exact⟨rfl,rfl,rfl,ht⟩
 cases op<;>simp[cW]at h hc<;>simp[dI,bZ,cX,eO,cI,dA]
 rename_i c;obtain⟨callee,args,ts⟩:=c;cases callee<;>simp at h ⊢
 rename_i b;cases b<;>simp at h ⊢
theorem aPh(h:cI op=true):cW op=false/\bZ op=false/\dA op=false/\eO op=false:=by
 cases op<;>simp[cI]at h<;>simp[cW,bZ,dA,eO]
 rename_i c;obtain⟨callee,args,ts⟩:=c;cases callee with
 |value f=>rfl
 |invoke r m=>simp at h
 |builtin b=>cases b<;>simp at h ⊢
theorem aO8(h:bZ op=true):cW op=false/\cX op=false/\dA op=false/\∃t,op=.alloc t:=by
 cases op<;>simp[bZ]at h<;>simp[cW,cX,eO,cI,dA]
theorem aPi{t e:TypeId}{n:Nat}(hn:n≠0)(ht:aDb t=false):KG P σ t e n n=(KG P [] t e n n).map λr=>(r.1,σ):=by
 unfold KG;cases P.info? e<;>cases bS P e<;>cases dS P e<;>simp only[yDj]
 split
 .simp only[hn,false_and,yAN,yAM,ht,yAx,yAC]
 .rfl
theorem aCE{t:TypeId}{a b:Operand}(h:aDc t a b=true):∃q:Option PD,∀(fl:Nat) (fr:List PD) (σ:List U),cK P fl fr σ (.makeSlice t a b)=q.map λp=>(p,σ):=by
 unfold aDc at h;split at h
 .rename_i l _ k;simp only[yAr,yBx,yBm]at h;obtain⟨⟨rfl,hl⟩,ht⟩:=h;have h0:0<=l:=xb;have hn:l.toNat≠0:=xb;cases hu:P.underlying t with
  |none=>exact⟨none,λfl fr σ=>by simp only[cK,hu];rfl⟩
  |some d=>
   cases d with
   |slice e=>
    refine⟨(KG P [] t e l.toNat l.toNat).map (·.1),λfl fr σ=>?_⟩;have hv:∀k,fZ (aT fr (.const (.int k l)))=some l.toNat:=λk=>by
     show(if 0<=l then some l.toNat else none)=_
     rw[yAJ h0]
    simp only[cK,hu,hv];rw[aPi hn ht,Option.map_map];rfl
   |_=>exact⟨none,λfl fr σ=>by simp only[cK,hu];rfl⟩
 .cases h
theorem aPj(hl:dA op=true\/iW op=true)(h:cK P fl fr σ op=some (p,σ')):σ'=σ:=by
 by_cases hc:∃s d x,op=.convert s d x
 .obtain⟨s,d,x,rfl⟩:=hc;simp only[cK]at h
  repeat' split at h
  all_goals first
   |(simp only[yAb,yAc]at h;exact h.2.symm)
   |(cases h;done)
 cases op<;>simp[dA,iW]at hl hc
 .exact uw
 .exact uw
 .rename_i t x y;obtain⟨q,hq⟩:=aCE (P:=P) hl;rw[hq]at h;cases q with
  |none=>cases h
  |some q=>simp only[yAC,yAb,yAc]at h;exact h.2.symm
theorem aPk(hl:eO op=true)(h:cK P fl fr σ op=some (p,σ')):∃id o,mT fr op=some id/\σ'=σ.set id o:=by
 cases op<;>simp[eO]at hl
 rename_i t x y;simp only[cK]at h;split at h
 .rename_i a q h1 h2;split at h
  .rename_i s hs;simp only[yAb,yAc]at h;obtain⟨rfl,rfl⟩:=h;unfold pC at hs;split at hs
   .rename_i id off;split at hs
    .exact fk
    .simp at hs
   .rename_i id ver off;exact fk
   .simp at hs
  .exact ah
 .exact ah
theorem aHL(hs:(cW op||dA op||bZ op||iW op||cX op)=true)(hw:cX op=false)(h:eA P call fl free k fr σ op=some (p,σ')):σ'=σ:=by
 unfold eA at h;split at h
 .split at h
  .exact ku
  .exact ah
 .rename_i hA;split at h
  .exact ku
  .rename_i hB;have hm:cI op=false:=by simp[cX]at hw;exact hw.2
   rw[hm]at h;simp only[yCi,yAx,yAN]at h;refine aPj ?_ h;simp[hw,yBW]at hs hA hB;rw[hA,hB]at hs;simpa using hs
end
section
variable{P:Program}{call:cO}{fl k0:Nat}{ops:Cb}{ms:List Nat}{frs:Nat->Bw}{σs:Nat->Bv}{ps:Nat->PD}{ft:Nat->Option Nat}{z:Nat->Bool}
def oM(P:Program)(call:cO)(fl:Nat)(ops:Array Oper)(ms:List Nat)(k0:Nat)(frs:Nat->List PD)(σs:Nat->List U)(ps:Nat->PD)(ft:Nat->Option Nat)(z:Nat->Bool):Prop:=
 ∀(i:Nat) (o:Oper),ops[i]?=some o->V0 P call fl ops ms k0 frs σs ps ft z i o
theorem oM.still(hr:rG ops ms)(ht:oM P call fl ops ms k0 frs σs ps ft z){i:Nat}{o:Oper}(ho:ops[i]?=some o)(hw:cX o.op=false):σs (i+1)=σs i:=by
 cases hwt:Region.wanted o (aY ops (frs i))with
 |true=>exact aHL (hr.shape i o ho) hw ((ht i o ho).run hwt).1
 |false=>exact((ht i o ho).skip hwt).2
theorem oM.aC7(hr:rG ops ms)(ht:oM P call fl ops ms k0 frs σs ps ft z){i:Nat}:∀(d:Nat),i+d<=ops.size->(∀j o,i<=j->j<i+d->ops[j]?=some o->cX o.op=false)->σs (i+d)=σs i
 |0,_,_=>rfl
 |d+1,hn,h=>by
  have ih:=ht.aC7 hr d xb λj o h1 h2 ho=>h j o h1 xb ho
  have ho:ops[i+d]?=some ops[i+d]:=yCe xb;rw[show i+(d+1)=i+d+1 by omega,ht.still hr ho (h _ _ xb xb ho),ih]
def VZ(ops:Array Oper)(ms:List Nat)(ft:Nat->Option Nat)(z:Nat->Bool)(σs:Nat->List U):Prop:=
 (∀(k i:Nat) (ok oi:Oper),ops[k]?=some ok->ops[i]?=some oi->eO ok.op=true->dA oi.op=true->loose ms i k=true->∀a b,ft i=some a->ft k=some b->a≠b) /\
 ∀(k i:Nat) (ok oi:Oper) (id:Nat),ops[k]?=some ok->ops[i]?=some oi->cI ok.op=true->dA oi.op=true->loose ms i k=true->z k=true->ft i=some id ->
  (σs k).length<=(σs (k+1)).length/\(id<(σs k).length->(σs (k+1))[id]?=(σs k)[id]?)
theorem oM.loose(hr:rG ops ms)(ht:oM P call fl ops ms k0 frs σs ps ft z)(hf:VZ ops ms ft z σs){i id:Nat}{oi:Oper}(hi:ops[i]?=some oi)(hl:dA oi.op=true)(hid:ft i=some id)
  {k:Nat} {o:Oper} (ho:ops[k]?=some o) (hk:cX o.op=true->Kz.loose ms i k=true) (hlt:id<(σs k).length):(σs (k+1))[id]?=(σs k)[id]?/\(σs k).length<=(σs (k+1)).length:=by
 cases hw:cX o.op with
 |false=>rw[ht.still hr ho hw];exact⟨rfl,yAk _⟩
 |true=>
  have hloose:=hk hw;cases hwt:Region.wanted o (aY ops (frs k))with
  |false=>rw[((ht k o ho).skip hwt).2];exact⟨rfl,yAk _⟩
  |true=>
   obtain⟨hrun,hfoot⟩:=(ht k o ho).run hwt;simp only[cX,yBf]at hw;rcases hw with hst|hmv
   .obtain⟨_,_,hA,hB,hM⟩:=VO (P:=P) (fr:=frs k) (.inr (.inr hst));unfold eA at hrun;simp only[hA,hB,hM,yAx,yAN,yCi]at hrun;obtain⟨id',o',h1,h2⟩:=aPk hst hrun;have hne:id≠id':=hf.1 k i o oi ho hi hst hl hloose id id' hid (hfoot.trans h1);rw[h2];exact⟨yAd (yBc hne),wz⟩
   .obtain⟨hA,hB,_,_⟩:=aPh hmv;cases hfree:z k with
    |true=>
     obtain⟨q1,q2⟩:=hf.2 k i o oi id ho hi hmv hl hloose hfree hid;exact⟨q2 hlt,q1⟩
    |false=>
    rw[hfree]at hrun;unfold eA at hrun;simp only[hA,hB,hmv,yAx,yAN,yBR,yCP,yAM]at hrun;split at hrun
    .rename_i p σ1 hst;simp only[yAb,yAc]at hrun;rw[<-hrun.2];exact⟨by rw[yAg hlt],wz⟩
    .simp at hrun
theorem oM.aC9(hr:rG ops ms)(ht:oM P call fl ops ms k0 frs σs ps ft z)(hf:VZ ops ms ft z σs){i id:Nat}{oi:Oper}(hi:ops[i]?=some oi)(hl:dA oi.op=true)(hid:ft i=some id){m:Nat} :
  ∀(d:Nat),m+d<=ops.size->(∀k o,m<=k->k<m+d->ops[k]?=some o->cX o.op=true->Kz.loose ms i k=true)->id<(σs m).length->(σs (m+d))[id]?=(σs m)[id]?/\(σs m).length<=(σs (m+d)).length
 |0,_,_,_=>⟨rfl,yAk _⟩
 |d+1,hn,h,hlt=>by
  obtain⟨h1,h2⟩:=ht.aC9 hr hf hi hl hid d xb (λk o a b=>h k o a xb) hlt;have ho:ops[m+d]?=some ops[m+d]:=yCe xb;obtain⟨h3,h4⟩:=ht.loose hr hf hi hl hid ho (λhw=>h _ _ xb xb ho hw) xb;exact⟨h3.trans h1,yBd h2 h4⟩
theorem oM.HV(hr:rG ops ms)(ht:oM P call fl ops ms k0 frs σs ps ft z):∀(i:Nat),i<=ops.size->mW ops ps (frs 0) (· < i) (frs i)
 |0,_=>.start λj=>yDk j
 |i+1,h=>by
  have ho:ops[i]?=some ops[i]:=yCe xb;have ih:=ht.HV hr i xb;rw[(ht i _ ho).put];exact(ih.put hr ho).congr λj=>xb
theorem aO3(hr:rG ops ms)(ht:oM P call fl ops ms k0 frs σs ps ft z){S:Nat->Prop}{fr:Bw}(hS:aAo ops S)(hsl:mW ops ps (frs 0) S fr){i:Nat}{o:Oper}(ho:ops[i]?=some o)(hni:¬S i)
  (hready:∀e∈o.after,Region.binds .any e=true->S e.on) {x:Nat} (hx:x∈o.looksAt ops):fr[x]?=(frs i)[x]?:=by
 refine hsl.agree hr (ht.HV hr i (yCS (oN ho))) λj oj hoj hd=>?_
 rcases Nat.lt_trichotomy j i with hlt|rfl|hgt
 .obtain⟨e,he,hb,heq⟩:=(hr.looks i o j oj x ho hoj xb hd hx).1 hlt;exact⟨λ_=>hlt,λ_=>heq▸hready e he hb⟩
 .exact⟨λh=>absurd h hni,λh=>absurd h (Nat.lt_irrefl _)⟩
 .obtain⟨e,he,hb,heq⟩:=(hr.looks i o j oj x ho hoj xb hd hx).2 hgt;exact⟨λh=>absurd (heq▸hS j oj h hoj e he hb) hni,λh=>absurd h xb⟩
theorem aO4{fr fr':Bw}{o:Oper}(h:∀x∈o.looksAt ops,fr[x]?=fr'[x]?):∀x∈o.op.operands,aT fr x=aT fr' x:=by
 intro x hx;cases x with
 |tmp t=>
  have:t∈o.looksAt ops:=List.mem_append_left _ (yDF.2 ⟨.tmp t,yj,rfl⟩);simp only[aT,yAA,h t this]
 |_=>rfl
theorem aO5{fr fr':Bw}{o:Oper}(h:∀x∈o.looksAt ops,fr[x]?=fr'[x]?):Region.wanted o (aY ops fr)=Region.wanted o (aY ops fr'):=by
 unfold Region.wanted;cases hg:o.guard with
 |none=>rfl
 |some gb=>
  obtain⟨g,b⟩:=gb;simp only;have:aY ops fr g=aY ops fr' g:=by
   unfold aY;cases hd:(ops[g]?).bind (·.dst)with
   |none=>rfl
   |some d=>
    have hm:d∈o.looksAt ops:=yDG _ (by rw[hg];simp[hd]);simp only[h d hm]
  rw[this]
structure Inv (P:Program) (fl:Nat) (ops:Array Oper) (c0:Cx) (gY:List PD) (σs:Nat->List U) (ps:Nat->PD) (df:List Deferred) (listed:Array Bool) (a:Act) (c:Cx) (fr:List PD) (b:Nat):Prop where
 size:listed.size=ops.size
 closed:aAo ops (Lt listed)
 sr:Sr c
 nx:Nx fl c0 c
 σ:c.σ=σs b
 bN:b<=ops.size
 front:∀(j:Nat) (o:Oper),ops[j]?=some o->cX o.op=true->(Lt listed j↔j<b)
 N6:∀(i:Nat) (o:Oper) (t:TypeId),ops[i]?=some o->o.op=.alloc t->¬Lt listed i->¬c.D (c0.σ.length+fH ops.toList i)/\∃z,dS P t=some z/\z.cells.all PD.plain=true/\c.σ[c0.σ.length+fH ops.toList i]?=some (.box (boxed t z))
 HV:mW ops ps gY (Lt listed) fr
 fr:FR c a fr
 df:a.defers=df
theorem aAp{listed:Array Bool}{i j:Nat}(hi:i<listed.size):Lt (listed.setIfInBounds i true) j↔Lt listed j\/j=i:=by
 unfold Lt
 by_cases e:i=j
 .subst e;simp[hi]
 .rw[Array.getElem?_setIfInBounds_ne e];exact⟨.inl,λh=>h.elim id (λh=>absurd h.symm e)⟩
theorem Inv.step{c0:Cx}{gY:Bw}{df:List Deferred}{listed:Array Bool}{a:Act}{c:Cx}{fr:Bw}{b:Nat}(hr:rG ops ms)(hi:Inv P fl ops c0 gY σs ps df listed a c fr b){i b':Nat}{o:Oper}(ho:ops[i]?=some o)
  (hready:∀e∈o.after,Region.binds .any e=true->Lt listed e.on) {c':Cx} {v:Value} (hs':Sr c') (nx':Nx fl c0 c') (mV:c'.σ=σs b') (hb':b'<=ops.size)
  (hfront:∀(j:Nat) (o:Oper),ops[j]?=some o->cX o.op=true->((Lt listed j\/j=i)↔j<b'))
  (hholes:∀(j:Nat) (o:Oper) (t:TypeId),ops[j]?=some o->o.op=.alloc t->¬Lt listed j->j≠i->¬c'.D (c0.σ.length+fH ops.toList j)/\∃z,dS P t=some z/\z.cells.all PD.plain=true/\c'.σ[c0.σ.length+fH ops.toList j]?=some (.box (boxed t z)))
  (hf':FR c' a fr) (hv:VR c' v (ps i)):Inv P fl ops c0 gY σs ps df (listed.setIfInBounds i true) (a.put o.dst v) c' (aL fr o.dst (ps i)) b':=by
 have hlt:i<listed.size:=Bl;refine⟨by simpa using hi.size,?_,hs',nx',mV,hb',?_,?_,?_,hf'.put hv _,?_⟩
 .intro j oj hj hoj e he hb;rw[aAp hlt]at hj ⊢;rcases hj with hj|rfl
  .exact .inl (hi.closed j oj hj hoj e he hb)
  .rw[ho]at hoj;simp only[yAb]at hoj;subst hoj;exact .inl (hready e he hb)
 .intro j oj hoj hw;rw[aAp hlt];exact hfront j oj hoj hw
 .intro j oj t hoj ht hn;rw[aAp hlt]at hn;exact hholes j oj t hoj ht (λh=>hn (.inl h)) (λh=>hn (.inr h))
 .exact(hi.HV.put hr ho).congr λj=>(aAp hlt).symm
 .rw[<-hi.df];cases o.dst<;>rfl
end
end
section
open Go.RowKit
theorem aG3{P:Program}{σ σ':Bv}{t:TypeId}{a p:PD}(h:j8 P σ t a=some p)(he:∀id,jH a=some id->σ'[id]?=σ[id]?):j8 P σ' t a=some p:=by
 unfold j8 at h ⊢;cases a<;>simp only at h ⊢<;>first|exact h|(simp at h;done)|skip
 .rename_i id off;rw[he id rfl];exact h
 .rename_i id ver off;rw[he id rfl];exact h
theorem aG4{P:Program}{σ:Bv}{t:TypeId}{a:PD}{id:Nat}{p:PD}(h:j8 P σ t a=some p)(ha:jH a=some id):id<σ.length:=by
 unfold j8 at h;cases a<;>simp only[jH,reduceCtorEq,yAb]at ha
 .subst ha;simp only at h;exact um
 .cases h
 .subst ha;simp only at h;exact um
theorem VR.aOZ{c:Cx}{v:Value}{a:PD}{id:Nat}(h:VR c v a)(ha:jH a=some id):c.D id:=by
 cases a<;>simp only[jH,reduceCtorEq,yAb]at ha
 .subst ha;obtain⟨_,_,hd,_⟩:=h.vQ;exact hd
 .subst ha;obtain⟨_,_,_,hd,_⟩:=h.KF;exact hd
 .subst ha;obtain⟨_,_,hd⟩:=h.RH;exact hd.1
theorem aO0{σ σ':Bv}{a:PD}{xs:Bw}(h:CU σ a=some xs)(he:∀id,jH a=some id->σ'[id]?=σ[id]?):CU σ' a=some xs:=by
 unfold CU at h ⊢;cases a<;>simp only at h ⊢<;>first|exact h|(simp at h;done)|skip
 rename_i id off n size;rw[he id rfl];exact h
theorem aG7{σ:Bv}{a:PD}{id:Nat}{xs:Bw}(h:CU σ a=some xs)(ha:jH a=some id):id<σ.length:=by
 unfold CU at h;cases a<;>simp only[jH,reduceCtorEq,yAb]at ha
 .cases h
 .subst ha;simp only at h;split at h
  .exact um
  .exact ah
 .cases h
theorem aCD{P:Program}{σ:Bv}{s d:TypeId}{a p:PD}(h:L4 P σ s d a=some p):∃xs,CU σ a=some xs:=by
 unfold L4 at h;cases hx:CU σ a with
 |none=>rw[hx]at h;cases h
 |some xs=>exact⟨xs,rfl⟩
theorem aG6{P:Program}{σ σ':Bv}{s d:TypeId}{a p:PD}(h:L4 P σ s d a=some p)(he:∀id,jH a=some id->σ'[id]?=σ[id]?):L4 P σ' s d a=some p:=by
 obtain⟨xs,hx⟩:=aCD h;unfold L4 at h ⊢;rw[aO0 hx he];rw[hx]at h;exact h
section
variable{F:Fence}{P:Program}{call:cO}{fl n:Nat}{Q:Exit->Act->World->Prop}{ops:Cb}{frs:Nat->Bw}{σs:Nat->Bv}{ps:Nat->PD}{ft:Nat->Option Nat}{z:Nat->Bool}
 {c0:Cx} {df:List Deferred}
theorem aO1{Pp:Cx->List PanicEntry->World->Prop}(hF:Open F P)(hc:Ok F P call Pp)(hr:rG ops (cA ops.toList []))(ht:oM P call fl ops (cA ops.toList []) c0.σ.length frs σs ps ft z)(hfeet:VZ ops (cA ops.toList []) ft z σs)
  (hs0:Sr c0) (hX0:Xw fl c0) {listed:Array Bool} {a:Act} {c:Cx} {fr:Bw} {b:Nat} (hi:Inv P fl ops c0 (frs 0) σs ps df listed a c fr b) {i:Nat} (hmem:i∈Region.ready .any ops listed) {K:Act->World->Prop}
  (hK:∀a' c' fr' b',Inv P fl ops c0 (frs 0) σs ps df (listed.setIfInBounds i true) a' c' fr' b'->K a' c'.w)
  (hR:∀(c:Cx) (a':Act) (fr':List PD) ch w',Sr c->Nx fl c0 c->FR c a' fr'->(∀d,(∀o∈ops,o.dst≠some d)->fr'[d]?=(frs 0)[d]?)->a'.defers=df->Pp c ch w'->Q (.panic ch) a' w'):wpOpIn F n P ops Q i K a c.w:=by
 obtain⟨hun,o,ho,aO2⟩:=mem_ready.1 hmem;have hlt:i<ops.size:=oN ho;have hni:¬Lt listed i:=by
  intro h;unfold Lt at h;rw[yCt,h]at hun;cases hun
 have hready:∀e∈o.after,Region.binds .any e=true->Lt listed e.on:=λe he hb=>by
  have:=aO2 e he hb;rw[yCt]at this;unfold Lt;cases hx:listed[e.on]? with
  |none=>rw[hx]at this;cases this
  |some t=>rw[hx]at this;simp at this;rw[this]
 have agree:=λx hx=>aO3 hr ht hi.closed hi.HV ho hni hready (x:=x) hx
 have ev:=aO4 agree;have hlen:fr.length=(frs i).length:=hi.HV.len.trans (ht.HV hr i (yCS hlt)).len.symm;have hXc:Xw fl c:=hX0.next hs0 hi.nx;have hXm:Xw (max fl c.σ.length) c:=λid g hd hle _ _ _=>absurd (hi.sr.aW id hd) xb
 have frontN:cX o.op=false->∀(j:Nat) (oj:Oper),ops[j]?=some oj->cX oj.op=true->((Lt listed j\/j=i)↔j<b):=λhw j oj hoj hwj=>by
  have hne:j≠i:=by rintro rfl;rw[ho]at hoj;simp only[yAb]at hoj;subst hoj;rw[hw]at hwj;cases hwj
  rw[<-hi.front j oj hoj hwj];simp[hne]
 have wb:cX o.op=true->b<=i:=λhw=>by
  rcases yBy i b with h|h
  .exact absurd ((hi.front i o ho hw).2 h) hni
  .exact h
 have wlow:cX o.op=true->∀(j:Nat) (oj:Oper),ops[j]?=some oj->cX oj.op=true->j<i->Lt listed j:=λhw j oj hoj hwj hji=>
  aHC hr.down hi.closed ho hready (hr.ord i o j oj ho hoj hw hwj hji)
 have frontW:cX o.op=true->∀(j:Nat) (oj:Oper),ops[j]?=some oj->cX oj.op=true->((Lt listed j\/j=i)↔j<i+1):=λhw j oj hoj hwj=>by
  constructor
  .rintro(h|rfl)
   .have:=(hi.front j oj hoj hwj).1 h;have:=wb hw;omega
   .omega
  .intro h;rcases yBy j i with h' | h'
   .exact .inl (wlow hw j oj hoj hwj h')
   .exact .inr xb
 have σW:cX o.op=true->c.σ=σs i:=λhw=>by
  have hle:=wb hw;rw[hi.σ];have:=ht.aC7 hr (i:=b) (i-b) xb λj oj h1 h2 hoj=>by
   cases hwj:cX oj.op with
   |false=>rfl
   |true=>exact absurd ((hi.front j oj hoj hwj).1 (wlow hw j oj hoj hwj xb)) xb
  rw[show b+(i-b)=i by omega]at this;exact this.symm
 have N6:∀ {bU:Nat} {c':Cx},Nx bU c c'->∀(j:Nat) (oj:Oper) (t:TypeId),ops[j]?=some oj->oj.op=.alloc t->¬Lt listed j->j≠i ->
   ¬c'.D (c0.σ.length+fH ops.toList j)/\∃z,dS P t=some z/\z.cells.all PD.plain=true/\c'.σ[c0.σ.length+fH ops.toList j]?=some (.box (boxed t z)):=λnx j oj t hoj hot hnl _=>by
  obtain⟨hnd,z,h1,h2,h3⟩:=hi.N6 j oj t hoj hot hnl;have hl:=(yA.1 h3).1;exact⟨λhd=>(nx.new _ hd).elim hnd (λh=>xb),z,h1,h2,(nx.hole _ hl hnd).trans h3⟩
 unfold wpOpIn;simp only[ho];rw[aC0 hi.fr,aO5 agree];cases hw:Region.wanted o (aY ops (frs i))with
 |false=>
  obtain⟨hp,mV⟩:=(ht i o ho).skip hw;simp only[yAx,yAN];refine⟨λf _=>hF.fn f,?_⟩;cases hW:cX o.op with
  |false=>exact hK _ c _ b (hi.step hr ho hready hi.sr hi.nx hi.σ hi.bN (frontN hW) (N6 (.refl 0 c)) hi.fr (by rw[hp];exact VR.undef c))
  |true=>exact hK _ c _ (i+1) (hi.step hr ho hready hi.sr hi.nx ((σW hW).trans mV.symm) hlt (frontW hW) (N6 (.refl 0 c)) hi.fr (by rw[hp];exact VR.undef c))
 |true=>
  obtain⟨hrun,hfoot⟩:=(ht i o ho).run hw;simp only[yAM];have gen:∀(bU b':Nat) (σ1:List U),fl<=bU->Xw bU c->bI P call bU fr c.σ o.op=some (ps i,σ1)->(∀c',Nx bU c c'->c'.σ=σ1->c'.σ=σs b')->b'<=ops.size ->
    (∀(j:Nat) (oj:Oper),ops[j]?=some oj->cX oj.op=true->((Lt listed j\/j=i)↔j<b'))->o.wpIn F n P a c.w K Q:=by
   intro bU b' σ1 hle hX' hst aO6 hb' hfront;refine aC1 hF hc hi.sr hX' hi.fr hst (λv w' hl=>?_) (λch w' h=>hR c a fr ch w' hi.sr hi.nx hi.fr (λd hd=>hi.HV.aO7 hd) hi.df h);obtain⟨c',rfl,e,hs',nx,hv,_⟩:=hl;exact hK _ c' _ b' (hi.step hr ho hready hs' (hi.nx.trans (nx.weaken hle)) (aO6 c' nx e) hb' hfront (N6 nx) (hi.fr.mono nx) hv)
  unfold eA at hrun
  by_cases hA:cW o.op=true
  .obtain⟨hpc,_,hW,_⟩:=aHn (fr:=fr) hA;rw[yAJ hA]at hrun;split at hrun
   .rename_i p hp;simp only[yAb,yAc]at hrun;obtain⟨rfl,_⟩:=hrun;refine gen fl b c.σ (yAk _) hXc ?_ (λc' _ e=>e.trans hi.σ) hi.bN (frontN hW);unfold bI pop;rw[hpc,aHD _ ev,hp]
   .simp at hrun
  .simp only[yBW]at hA;rw[hA]at hrun;simp only[yAx,yAN]at hrun
   by_cases hB:bZ o.op=true
   .obtain⟨_,hW,_,t,hop⟩:=aO8 hB;rw[yAJ hB]at hrun;simp only[yAb,yAc]at hrun;obtain⟨hp,_⟩:=hrun;obtain⟨hnd,z,hz,hpl,hbox⟩:=hi.N6 i o t ho hop hni;obtain⟨zv,inf,hinf,hzv,hzr⟩:=L5 (c:=c) hz;have KC:=(aC8 (P:=P) (fl:=fl) hi.sr (aAk hz hinf hzv t) (aJ.ER hzr.cells hpl) t (λt' ds e=>aAl hzr e)).1;have hrun:(execOp a.eval o).run P c.w=.ok (.value (.pointer (some ⟨c.w.heap.size,0,none⟩))) (c.w.alloc (.cells zv.cells t)):=by
     obtain⟨dst,op,ty,pos,after,guard⟩:=o;simp only at hop;subst hop;simp[execOp,Instr.alloc,zeroValue,typeInfo,hinf,hzv,KC]
    refine⟨λf _=>hF.fn f,?_⟩;rw[yCQ _ _ _ (by rw[hop];intro d e;cases e),hrun];have hg:c.w.grownBy (c.w.alloc (.cells zv.cells t)) none:=HT _ _;have gV:∀b',aV (.pointer (some ⟨c.w.heap.size,0,none⟩))=some b'->c.w.heap.size<=b':=λb' hb=>zk
    have hnv:Nv c (c.mI (c.w.alloc (.cells zv.cells t)) (c0.σ.length+fH ops.toList i) (.pointer (some ⟨c.w.heap.size,0,none⟩))):=Nv.mI hnd hbox hg gV;refine hK _ (c.mI (c.w.alloc (.cells zv.cells t)) (c0.σ.length+fH ops.toList i) (.pointer (some ⟨c.w.heap.size,0,none⟩))) _ b
     (hi.step hr ho hready (hi.sr.mI hnd hbox hg (yAk _) (yBB _ _) (aAk hz hinf hzv t) ⟨aJ.ER hzr.cells hpl,λt' ds e=>aAl hzr e⟩) (hi.nx.mI hnd hbox hg gV xb) hi.σ hi.bN (frontN hW) ?_ ⟨aJ.mJ hnv hi.fr.1,(hi.sr.mI hnd hbox hg (yAk _) (yBB _ _) (aAk hz hinf hzv t) ⟨aJ.ER hzr.cells hpl,λt' ds e=>aAl hzr e⟩).gU⟩ ?_)
    .intro j oj t' hoj hot hnl hne;obtain⟨aO9,z',h1,h2,h3⟩:=hi.N6 j oj t' hoj hot hnl;refine⟨λhd=>?_,z',h1,h2,h3⟩;rcases hd with hd|hd
     .exact aO9 hd
     .exact aPa (l:=ops.toList) (by simpa using hoj) yz (by rw[hot];rfl) hB hne xb
    .rw[<-hp];exact .ptr _ _ _ (.inr rfl) ⟨_,hbox⟩ L6
   .simp only[yBW]at hB;rw[hB]at hrun;simp only[yAx,yAN]at hrun
    by_cases hM:cI o.op=true
    .have hW:cX o.op=true:=by simp[cX,hM]
     have mV:=σW hW;rw[hM]at hrun;cases hfree:z i with
     |true=>
      rw[hfree]at hrun;simp only[yBw,Bool.and_false,yAx,yAN,yAM]at hrun;refine gen fl (i+1) (σs (i+1)) (yAk _) hXc ?_ (λc' _ e=>e) hlt (frontW hW);rw[aHE hlen _ ev,mV];exact hrun
     |false=>
      rw[hfree]at hrun;simp only[yBR,yCP,yAM]at hrun;split at hrun
      .rename_i p σ1 hst;simp only[yAb,yAc]at hrun;obtain⟨rfl,aPb⟩:=hrun;refine gen (max fl c.σ.length) (i+1) σ1 xb hXm ?_ (λc' nx e=>?_) hlt (frontW hW)
       .rw[aHE hlen _ ev,mV];exact hst
       .rw[<-aPb,<-e,<-mV];refine yBT λid=>?_
        rcases yBy id c.σ.length with h|h
        .rw[yAg h];exact nx.ro id xb h
        .rw[yCp h,yBC]
         congr 1;omega
      .simp at hrun
    .simp only[yBW]at hM;rw[hM]at hrun;simp only[yCi,yAx,yAN]at hrun;have hsh:=hr.shape i o ho;simp only[hA,hB,cX,hM,yBX,yCM,yBf]at hsh
     by_cases hst:eO o.op=true
     .have hW:cX o.op=true:=by simp[cX,hst]
      obtain⟨gV,L7,_⟩:=VO (P:=P) (fr:=fr) (.inr (.inr hst));refine gen fl (i+1) (σs (i+1)) (yAk _) hXc ?_ (λc' _ e=>e) hlt (frontW hW);unfold bI pop;rw[L7,gV];simp only;rw[aAm hlen _ ev,σW hW];exact hrun
     .have hW:cX o.op=false:=by simp[cX,hM,hst]
      by_cases hL:dA o.op=true
      .obtain⟨gV,L7,_⟩:=VO (P:=P) (fr:=fr) (.inl hL);refine gen fl b c.σ (yAk _) hXc ?_ (λc' _ e=>e.trans hi.σ) hi.bN (frontN hW);unfold bI pop;rw[L7,gV];simp only;rw[aAm hlen _ ev];obtain⟨dst,op,ty,pos,after,guard⟩:=o;have aHF:∀x ad,op.operands=#[x]->aT (frs i) x=some ad->(mT (frs i) op=jH ad)->(∀id,jH ad=some id->id<(σs i).length)->∀id,jH ad=some id->c.σ[id]?=(σs i)[id]?:=by
        intro x ad hopx had hfe hltA id hida;have hfid:ft i=some id:=by rw[hfoot,hfe,hida]
        rcases yBy i b with hib|hbi
        .have h1:=(ht.aC9 hr hfeet ho hL hfid (m:=i) (b-i) (by have:=hi.bN;omega) (λk ok h1 h2 hok hwk=>by
          have hk:Lt listed k:=(hi.front k ok hok hwk).2 xb;unfold loose;simp only[yAr,yBm,];refine⟨?_,?_⟩
          .cases hx:((cA ops.toList []).getD i 0).testBit k with
           |false=>rfl
           |true=>exact absurd (aHG hr.down i k hx) xb
          .cases hx:((cA ops.toList []).getD k 0).testBit i with
           |false=>rfl
           |true=>exact absurd (aHH hr.down hi.closed k i hk hx) hni) (hltA id hida)).1
         rw[show i+(b-i)=b by omega]at h1;rw[hi.σ];exact h1
        .have hd:id<(σs b).length:=by
          have hev:aT fr x=some ad:=by
           rw[ev x (by rw[hopx];simp)];exact had
          have hd:=(cL hi.fr hev).aOZ hida;rw[<-hi.σ];exact hi.sr.aW id hd
         have h1:=(ht.aC9 hr hfeet ho hL hfid (m:=b) (i-b) xb (λk ok h1 h2 hok hwk=>by
          have hk:¬Lt listed k:=λhk=>absurd ((hi.front k ok hok hwk).1 hk) xb
          unfold loose;simp only[yAr,yBm,];refine⟨?_,?_⟩
          .cases hx:((cA ops.toList []).getD i 0).testBit k with
           |false=>rfl
           |true=>exact absurd (aHC hr.down hi.closed ho hready hx) hk
          .cases hx:((cA ops.toList []).getD k 0).testBit i with
           |false=>rfl
           |true=>exact absurd (aHG hr.down k i hx) xb) hd).1
         rw[show b+(i-b)=i by omega]at h1;rw[hi.σ];exact h1.symm
       by_cases hcv:∃s d x,op=.convert s d x
       .obtain⟨s,d,x,rfl⟩:=hcv;simp only[cK]at hrun ⊢;split at hrun
        .rename_i htc;rw[yAJ htc];split at hrun
         .rename_i ad had;split at hrun
          .exact sj
          .split at hrun
           .rename_i p hp;obtain⟨xs,hxs⟩:=aCD hp;rw[aG6 hp (aHF x ad rfl had (by simp only[mT,had]) (λid=>aG7 hxs))];exact sj
           .cases hrun
         .cases hrun
        .cases hrun
       obtain⟨t,x,rfl⟩:∃t x,op=.load t x:=by cases op<;>simp[dA]at hL hcv ⊢
       simp only[cK]at hrun ⊢;split at hrun
       .rename_i ad had;split at hrun
        .rename_i p hp;simp only[yAb,yAc]at hrun;obtain⟨rfl,_⟩:=hrun;have hkeep:∀id,jH ad=some id->c.σ[id]?=(σs i)[id]?:=aHF x ad rfl had (by simp only[mT,had]) (λid=>aG4 hp);rw[aG3 hp hkeep]
        .simp at hrun
       .simp at hrun
      .have hS:iW o.op=true:=by simpa [hL,hst]using hsh
       obtain⟨gV,L7,_⟩:=VO (P:=P) (fr:=fr) (.inr (.inl hS));refine gen fl b c.σ (yAk _) hXc ?_ (λc' _ e=>e.trans hi.σ) hi.bN (frontN hW);unfold bI pop;rw[L7,gV];simp only;rw[aAm hlen _ ev];obtain⟨dst,op,ty,pos,after,guard⟩:=o
       by_cases hmk:∃t x y,op=.makeSlice t x y
       .obtain⟨t,x,y,rfl⟩:=hmk;obtain⟨q,hq⟩:=aCE (P:=P) hS;simp only[hq]at hrun ⊢;cases q with
        |none=>cases hrun
        |some q=>
         simp only[yAC,yAb,yAc]at hrun ⊢;exact⟨hrun.1,trivial⟩
       obtain⟨t,ln,parts,rfl⟩:∃t ln parts,op=.buildSlice t ln parts:=by cases op<;>simp[iW]at hS hmk ⊢
       simp only[cK]at hrun ⊢;split at hrun
       .rename_i qs hqs;split at hrun
        .rename_i p hp;simp only[yAb,yAc]at hrun;obtain⟨rfl,_⟩:=hrun;rfl
        .simp at hrun
       .simp at hrun
theorem aPc(hr:rG ops (cA ops.toList []))(ht:oM P call fl ops (cA ops.toList []) c0.σ.length frs σs ps ft z){listed:Array Bool}{a:Act}{c:Cx}{fr:Bw}{b:Nat}(hi:Inv P fl ops c0 (frs 0) σs ps df listed a c fr b)
  (hnil:Region.ready .any ops listed=[]):c.σ=σs ops.size/\fr=frs ops.size:=by
 have hall:∀i,i<ops.size->Lt listed i:=by
  intro i
  induction i using Nat.strongRecOn with
  |_ i ih=>
   intro hlt;have ho:ops[i]?=some ops[i]:=yCe hlt;have hls:i<listed.size:=by rw[hi.size];exact hlt
   cases hb:listed[i]with
   |true=>unfold Lt;rw[yCe hls,hb]
   |false=>
    have:i∈Region.ready .any ops listed:=mem_ready.2 ⟨by rw[yCt,yCe hls,hb];rfl,_,ho,λe he hbd=>by
     have hd:=hr.down i _ ho e he hbd;have:=ih e.on hd xb;unfold Lt at this;rw[yCt,this];rfl⟩
    rw[hnil]at this;cases this
 constructor
 .rw[hi.σ];have:=ht.aC7 hr (i:=b) (ops.size-b) (by have:=hi.bN;omega) λj oj h1 h2 hoj=>by
   cases hwj:cX oj.op with
   |false=>rfl
   |true=>exact absurd ((hi.front j oj hoj hwj).1 (hall j (oN hoj))) xb
  rw[show b+(ops.size-b)=ops.size by have:=hi.bN;omega]at this;exact this.symm
 .exact hi.HV.same hr (ht.HV hr ops.size (yAk _)) λj o hoj=>⟨λ_=>oN hoj,λh=>hall j h⟩
theorem aPd{Pp:Cx->List PanicEntry->World->Prop}(hF:Open F P)(hc:Ok F P call Pp)(hr:rG ops (cA ops.toList []))(ht:oM P call fl ops (cA ops.toList []) c0.σ.length frs σs ps ft z)(hfeet:VZ ops (cA ops.toList []) ft z σs)
  (hs0:Sr c0) (hX0:Xw fl c0) (hQ:∀c' a',c'.σ=σs ops.size->Sr c'->Nx fl c0 c'->FR c' a' (frs ops.size)->a'.defers=df->Q .normal a' c'.w)
  (hR:∀(c:Cx) (a':Act) (fr':List PD) ch w',Sr c->Nx fl c0 c->FR c a' fr'->(∀d,(∀o∈ops,o.dst≠some d)->fr'[d]?=(frs 0)[d]?)->a'.defers=df->Pp c ch w'->Q (.panic ch) a' w') :
  ∀(fuel:Nat) (listed:Array Bool) (a:Act) (c:Cx) (fr:List PD) (b:Nat),Inv P fl ops c0 (frs 0) σs ps df listed a c fr b->listed.toList.countP (·==false)<=fuel->wpAnyIn F n P .any ops Q fuel listed a c.w:=by
 have done:∀(listed:Array Bool) (a:Act) (c:Cx) (fr:List PD) (b:Nat),Inv P fl ops c0 (frs 0) σs ps df listed a c fr b->Region.ready .any ops listed=[]->Q .normal a c.w:=by
  intro listed a c fr b hi hnil;obtain⟨e1,e2⟩:=aPc hr ht hi hnil;exact hQ c a e1 hi.sr hi.nx (e2▸hi.fr) hi.df
 intro fuel
 induction fuel with
 |zero=>
  intro listed a c fr b hi hn;have h0:∀x∈listed.toList,¬(x==false)=true:=List.countP_eq_zero.1 (Nat.le_zero.1 hn);have hnil:Region.ready .any ops listed=[]:=by
   apply List.eq_nil_iff_forall_not_mem.2;intro i hm;obtain⟨hun,o,ho,_⟩:=mem_ready.1 hm;have hls:i<listed.size:=Bl;rw[yCt,yCe hls]at hun;exact h0 _ (yBQ.2 (Array.getElem_mem hls)) (by simpa using hun)
  exact⟨hnil,done listed a c fr b hi hnil⟩
 |succ fuel ih=>
  intro listed a c fr b hi hn;refine⟨done listed a c fr b hi,λi hm=>aO1 hF hc hr ht hfeet hs0 hX0 hi hm (λa' c' fr' b' hi'=>ih _ a' c' fr' b' hi' ?_) hR⟩;obtain⟨hun,o,ho,_⟩:=mem_ready.1 hm;have hls:i<listed.size:=Bl;have hli:i<listed.toList.length:=by simpa using hls
  rw[yCt,yCe hls]at hun;simp only[yBY]at hun;rw[yDD,List.countP_set hli];have hpos:0<listed.toList.countP (·==false):=List.countP_pos_iff.2 ⟨listed[i],yBQ.2 (Array.getElem_mem hls),by simp[hun]⟩;have e:listed.toList[i]=false:=by simpa using hun
  rw[e];simp only[beq_self_eq_true,yAM,show(true==false)=false from rfl,yAx,yAN];omega
theorem aHI{Pp:Cx->List PanicEntry->World->Prop}(hF:Open F P)(hc:Ok F P call Pp){a:Act}{fr fr':Bw}{σ' hst:Bv}(hs:Sr c0)(hX:Xw fl c0)(hf:FR c0 a fr)(hr:rG ops (cA ops.toList []))(hho:kN P ops.toList=some hst)
  {frs:Nat->Bw} {σs:Nat->Bv} {ps:Nat->PD} {ft:Nat->Option Nat} {z:Nat->Bool} (e1:frs 0=fr) (e2:σs 0=c0.σ++hst) (e3:frs ops.size=fr') (e4:σs ops.size=σ')
  (ht:oM P call fl ops (cA ops.toList []) c0.σ.length frs σs ps ft z) (hfeet:VZ ops (cA ops.toList []) ft z σs)
  (hQ:∀c' a',c'.σ=σ'->Sr c'->Nx fl c0 c'->FR c' a' fr'->a'.defers=a.defers->Q .normal a' c'.w)
  (hR:∀(c:Cx) (a':Act) (fr':List PD) ch w',Sr c->Nx fl c0 c->FR c a' fr'->(∀d,(∀o∈ops,o.dst≠some d)->fr'[d]?=fr[d]?)->a'.defers=a.defers->Pp c ch w'->Q (.panic ch) a' w'):wpAnyIn F n P .any ops Q ops.size (Array.replicate ops.size false) a c0.w:=by
 have hs':=hs.ahead hst;refine aPd (df:=a.defers) hF hc hr ht hfeet hs hX (λc' a' h1 h2 h3 h4 h5=>hQ c' a' (h1.trans e4) h2 h3 (e3▸h4) h5) (e1▸hR) ops.size _ a (c0.ahead hst) fr 0 ?_ ?_
 .refine⟨wz,?_,hs',Nx.ahead hs hst,e2.symm,yAF _,?_,?_,?_,FR.mono (Nx.ahead (fl:=0) hs hst) hf,rfl⟩
  .intro i o hi;unfold Lt at hi;rw[yDE]at hi;split at hi<;>simp at hi
  .intro j o _ _;unfold Lt;rw[yDE];split<;>simp
  .intro i o t ho hot _;obtain⟨z,h1,h2,h3⟩:=aDa hho i o t yz hot;refine⟨λhd=>absurd (hs.aW _ hd) xb,z,h1,h2,?_⟩;show(c0.σ++hst)[_]?=_
   rw[yCp xb,show c0.σ.length+fH ops.toList i-c0.σ.length=fH ops.toList i by omega];exact h3
  .rw[<-e1];refine .start λj hj=>?_
   unfold Lt at hj;rw[yDE]at hj;split at hj<;>simp at hj
 .exact yBd List.countP_le_length wz
theorem aHJ{tr:List TE}{ft:Nat->Option Nat}(hfo:CH ops.toList (cA ops.toList []) tr=true)(hft:∀j,0<=j->j<ops.size->ft j=(tr[j-0]?).bind TE.jW) :
  ∀(k i:Nat) (ok oi:Oper),ops[k]?=some ok->ops[i]?=some oi->eO ok.op=true->dA oi.op=true->loose (cA ops.toList []) i k=true->∀a b,ft i=some a->ft k=some b->a≠b:=by
 intro k i ok oi RI hoi hsk hli hloose x y hx hy;simp only[CH,yAn,yAZ]at hfo;have h1:=hfo k (by simpa using oN RI);rw[aAn RI,hsk]at h1;simp only[yBw,yBX,yAn,yAZ]at h1;have h2:=h1 i (by simpa using oN hoi);rw[aAn hoi,hli,hloose]at h2;have hxi:=hft i (yAF _) (oN hoi);have hyk:=hft k (yAF _) (oN RI);simp only[Nat.sub_zero]at hxi hyk;rw[<-hxi,<-hyk,hx,hy]at h2;simpa using h2
theorem aHr{Pp:Cx->List PanicEntry->World->Prop}(hF:Open F P)(hc:Ok F P call Pp){a:Act}{fr fr':Bw}{σ':Bv}(hs:Sr c0)(hX:Xw fl c0)(hf:FR c0 a fr)(h:pG P call fl ops fr c0.σ=some (fr',σ'))
  (hQ:∀c' a',c'.σ=σ'->Sr c'->Nx fl c0 c'->FR c' a' fr'->a'.defers=a.defers->Q .normal a' c'.w)
  (hR:∀(c:Cx) (a':Act) (fr':List PD) ch w',Sr c->Nx fl c0 c->FR c a' fr'->(∀d,(∀o∈ops,o.dst≠some d)->fr'[d]?=fr[d]?)->a'.defers=a.defers->Pp c ch w'->Q (.panic ch) a' w':=by intro _ _ _ _ _ _ _ _ _ _ h;exact h.elim):wpAnyIn F n P .any ops Q ops.size (Array.replicate ops.size false) a c0.w:=by
 unfold pG at h;split at h
 .rename_i x h;simp only[yAb]at h;subst h;rename_i h;unfold mA at h;simp only at h;split at h
  .rename_i hok;have hr:=JY hok;split at h
   .rename_i hst hho;split at h
    .rename_i tr aG σ1 hops;split at h
     .rename_i hfo;simp only[yAb,yAc]at h;obtain⟨rfl,rfl⟩:=h;obtain⟨frs,σs,ps,ft,e1,e2,e3,e4,htr,hft⟩:=aPe (k0:=c0.σ.length) ops.toList 0 _ _ _ _ _ _ wz (by simp[fH]) hops;simp only[yAp,yCb]at e3 e4 hft;have ht:oM P call fl ops (cA ops.toList []) c0.σ.length frs σs ps ft (λi=>j9 ops.toList (cA ops.toList []) i):=λi o ho=>htr i o (yAF _) ho
      refine aHI hF hc hs hX hf hr hho e1 e2 e3 e4 ht ⟨aHJ hfo hft,?_⟩ hQ hR;intro k i ok oi id RI hoi hmk hli hlo hz _;simp only[j9,yAn,yAZ]at hz;have:=hz i (by simpa using oN hoi);rw[aAn hoi,hli,hlo]at this;simp at this
     .exact ah
    .exact ah
   .exact ah
  .exact ah
 .split at h
  .rename_i hok;have hr:=JY hok;split at h
   .rename_i hst hho;split at h
    .rename_i tr aG σ1 hops;split at h
     .rename_i hfo;obtain⟨hfo,hkp⟩:=hfo;simp only[yAb,yAc]at h;obtain⟨rfl,rfl⟩:=h;obtain⟨frs,σs,ps,ft,e1,e2,e3,e4,htr,hft,aHK⟩:=aPf (k0:=c0.σ.length) (ms:=cA ops.toList []) ops.toList 0 _ _ _ _ _ _ wz (by simp[fH]) hops;simp only[yAp,yCb]at e3 e4 hft;have ht:oM P call fl ops (cA ops.toList []) c0.σ.length frs σs ps ft (λ_=>true):=λi o ho=>htr i o (yAF _) ho
      refine aHI hF hc hs hX hf hr hho e1 e2 e3 e4 ht ⟨aHJ hfo hft,?_⟩ hQ hR;intro k i ok oi id RI hoi hmk hli hlo _ hid;have aPg:(tr[i]?).bind TE.jW=some id:=by
       have:=hft i (yAF _) (oN hoi);rw[Nat.sub_zero]at this;rw[<-this,hid]
      have:=hkp k i id ok oi (by simpa using RI) (by simpa using hoi) hmk hli hlo aPg;have h1:=aHK k (yAF _);have h2:=aHK (k+1) (yAF _);simp only[Nat.sub_zero]at h1 h2;rw[h1,h2];exact this
     .exact ah
    .exact ah
   .exact ah
  .exact ah
end
end
section
open Go.RowKit
section
variable{F:Fence}{n:Nat}{P:Program}{Q:Exit->Act->World->Prop}{a:Act}{w:World}
def KB(F:Fence)(n:Nat)(P:Program)(c:Code)(Q:Exit->Act->World->Prop)(a:Act)(w:World):Prop:=
 ∀(b:Frame) (k:List Item) (cs:List Frame),b.roundOf=F.round->F.fn b.fn->F.room (cs.length+1+n) ->
  ∃e a' w',Q e a' w'/\ArrivesIn (Machine.fenced P F) P (lone (b.atR a (.code c::.inLoop c::k)) cs w) b k cs e a' w'
theorem KB.wpIn{c:Code}(h:KB F n P c Q a w):(Code.loop c).wpIn F n P Q a w:=λb k cs hro hb hr=>
 let ⟨e,a',w',q,r⟩:=h b k cs hro hb hr;⟨e,a',w',q,.of_steps (.one (fenced_calm hb hr rfl) stepR_loop) r⟩
theorem KB.round{c:Code}(h:c.wpIn F n P (Exit.then (KB F n P c Q) Q) a w):KB F n P c Q a w:=by
 intro b k cs hro hb hr;obtain⟨e,a₁,w₁,hq,harr⟩:=h b (.inLoop c::k) cs hro hb hr;cases e with
 |normal=>
  obtain⟨e₂,a₂,w₂,hq₂,harr₂⟩:=hq b k cs hro hb hr;exact⟨e₂,a₂,w₂,hq₂,.of_steps (StepsIn.trans harr (.one (fenced_calm hb hr rfl) stepR_inLoop)) harr₂⟩
 |exit id=>exact⟨_,a₁,w₁,hq,.pass (x:=.inLoop c) rfl (λ_ _=>.inl wz) harr⟩
 |goto l=>exact⟨_,a₁,w₁,hq,.pass (x:=.inLoop c) rfl (λ_ _=>.inl wz) harr⟩
 |ret=>exact⟨_,a₁,w₁,hq,.pass (x:=.inLoop c) rfl (λ_ _=>.inl wz) harr⟩
 |panic ch=>exact⟨_,a₁,w₁,hq,.pass (x:=.inLoop c) rfl (λ_ _=>.inl wz) harr⟩
 |outgrown=>exact⟨_,a₁,w₁,hq,.pass (x:=.inLoop c) rfl (λ_ _=>.inl wz) harr⟩
def mG(F:Fence)(n:Nat)(P:Program)(c:Code)(Q:Exit->Act->World->Prop)(a:Act)(w:World):Prop:=
 match c with
 |.loop b=>KB F n P b Q a w
 |c=>c.wpIn F n P Q a w
theorem mG.wpIn{c:Code}(h:mG F n P c Q a w):c.wpIn F n P Q a w:=by
 unfold mG at h;split at h
 .exact KB.wpIn h
 .exact h
end
def MR(B:List Deferred)(c:Cx):List Deferred->List Nat->Prop
 |ds,[]=>ds=B
 |d::ds,m::ms=>(∃b,d.target=.collected b/\c.D m/\pH c.σ[m]?/\c.ρ m=.pointer (some ⟨b,0,none⟩))/\MR B c ds ms
 | [],_::_=>False
theorem MR.mono{B:List Deferred}{fl:Nat}{c c':Cx}(nx:Nx fl c c'):∀ {ds:List Deferred} {ms:List Nat},MR B c ds ms->MR B c' ds ms
 |ds,[],h=>by
  cases ds with
  |nil=>exact h
  |cons d ds=>exact h
 |d::ds,m::ms,h=>by
  obtain⟨⟨b,h1,h2,h3,h4⟩,h5⟩:=h;obtain⟨e,k⟩:=nx.lP m h2 h3;exact⟨⟨b,h1,nx.aW m h2,k,e.trans h4⟩,MR.mono nx h5⟩
 | [],_::_,h=>h.elim
def CQ(F:Fence)(c:Cx):Option Nat->Prop
 |none=>F.round=none
 |some id=>∃l,F.round=some l/\c.D id/\pH c.σ[id]?/\c.ρ id=.pointer (some ⟨l,0,none⟩)
theorem CQ.mono{fl:Nat}{F:Fence}{c c':Cx}(nx:Nx fl c c'){rd:Option Nat}(h:CQ F c rd):CQ F c' rd:=by
 cases rd with
 |none=>exact h
 |some id=>
  obtain⟨l,h1,h2,h3,h4⟩:=h;obtain⟨e,k⟩:=nx.lP id h2 h3;exact⟨l,h1,nx.aW id h2,k,e.trans h4⟩
structure FRx (c:Cx) (a:Act) (x:PX) (fr:List PD):Prop where
 low:∃vP,FR c a vP/\∀i,i<7->vP[i]?=fr[i]?
 all:(∀v,x≠.panic v)->FR c a fr
theorem FRx.of{c:Cx}{a:Act}{x:PX}{fr:Bw}(h:FR c a fr):FRx c a x fr:=⟨⟨fr,h,λ_ _=>rfl⟩,λ_=>h⟩
def aC2(P:Program)(code:N5):Prop:=
 ∀ {F:Fence} {rd:Option Nat} {c:Code} {fl:Nat} {fr:Bw} {ms:List Nat} {cx:Cx} {r:PO} {a:Act} {B:List Deferred},Open F P->code rd c fl fr ms cx.σ=some r->Sr cx->Xw fl cx->FR cx a fr->MR B cx a.defers ms->CQ F cx rd ->
   ∀(m:Nat) (Q:Exit->Act->World->Prop),(∀kG a',kG.σ=r.σ->Sr kG->Nx fl cx kG->FRx kG a' r.x r.fr->MR B kG a'.defers r.ms->Q r.x.VQ a' kG.w)->mG F m P c Q a cx.w
section
variable{P:Program}{c:Cx}{fl:Nat}
theorem aOY(hs:Sr c){a:Act}{fr:Bw}(hf:FR c a fr){rv:ResultVar}{p:PD}(h:CO P fr c.σ rv=some p) :
  ∃v,((match rv with|.tmp t=>pure (a.tmps.getD t undef)|.cell x t=>do loadVar t (<-asAddr (a.tmps.getD x undef)):Sem Value)).run P c.w=.ok v c.w/\VR c v p:=by
 cases rv with
 |tmp t=>
  simp only[CO,yAb]at h;subst h;exact⟨_,rfl,hf.tmp t⟩
 |cell x t=>
  simp only[CO]at h;split at h
  .rename_i id off hid;have hv:=hf.tmp x;rw[hid]at hv;obtain⟨v,r,q⟩:=aHA (P:=P) hs h hv;obtain⟨b,e,_⟩:=hv.vQ;refine⟨v,?_,q⟩;rw[e]at r;simp only[e,asAddr];simpa [Instr.loadAt,Instr.sureAddr]using r
  .exact ah
theorem aHB(hs:Sr c){a:Act}{fr:Bw}(hf:FR c a fr){f:ResultVar->Sem Value}(hfn:∀(rv:ResultVar) (p:PD),CO P fr c.σ rv=some p->∃v,(f rv).run P c.w=.ok v c.w/\VR c v p):∀ {l:List ResultVar} {qs:Bw},oI P fr c.σ l=some qs ->
  ∃vs:List Value,(l.mapM f).run P c.w=.ok vs c.w/\aJ c vs qs
 | [],qs,h=>by
   simp only[oI,yAb]at h;subst h;exact⟨[],by simp[List.mapM_nil],rfl,wz⟩
 |rv::l,qs,h=>by
  simp only[oI]at h;split at h
  .rename_i p ps h1 h2;simp only[yAb]at h;subst h;obtain⟨v,r,hv⟩:=hfn rv p h1;obtain⟨vs,rs,hvs⟩:=aHB hs hf hfn h2;refine⟨v::vs,by simp[List.mapM_cons,yAV,r,rs,Result.andThen],by simpa using hvs.1,λi u d hu hd=>?_⟩;cases i with
   |zero=>simp at hu hd;subst hu hd;exact hv
   |succ i=>exact hvs.2 i u d yx zc
  .exact ah
theorem aC6(hs:Sr c){a:Act}{fr:Bw}(hf:FR c a fr){fn:Func}{qs:Bw}(h:oI P fr c.σ fn.results.toList=some qs):∃v,(results fn a.tmps).run P c.w=.ok v c.w/\VR c v (LV qs):=by
 obtain⟨vs,r,hv⟩:=aHB hs hf (λrv p=>aOY hs hf) h;unfold results;rw[Array.mapM_eq_mapM_toList];rw[map_eq_pure_bind];simp only[yAV]
 generalize hg:Sem.run P (List.mapM _ fn.results.toList) c.w=res
 have e:res=.ok vs c.w:=hg.symm.trans r;subst e;simp only[Result.andThen,yAY];have hl:=hv.1
 by_cases h1:vs.length=1
 .obtain⟨v,rfl⟩:∃v,vs=[v]:=by
   match vs,h1 with
   | [v],_=>exact⟨v,rfl⟩
  obtain⟨p,rfl⟩:∃p,qs=[p]:=by
   match qs,hl with
   | [p],_=>exact⟨p,rfl⟩
  exact⟨v,wz,hv.2 0 v p rfl rfl⟩
 .have e:LV qs=.aK qs:=by
   match qs,hl with
   | [],_=>rfl
   | [p],hl=>exact absurd hl h1
   |_::_::_,_=>rfl
  rw[e];refine⟨.tuple vs.toArray,?_,.aK vs qs hv.1 hv.2⟩;rw[dif_neg yb]
end
end
section
open Go.RowKit
section
variable{P:Program}{fl:Nat}
theorem aHu{b b':Nat}(h:Value.pointer (some ⟨b,0,none⟩)=Value.pointer (some ⟨b',0,none⟩)):b=b':=yf
theorem aHv{F:Fence}{n:Nat}{fn:Func}{tmps:Ca}{R:Ending->World->Prop}:∀(ms:List Nat) (ds:List Deferred) (c:Cx) (σ':List U),NV fl ms c.σ=some σ'->Sr c->MR [] c ds ms ->
  (∀c',c'.σ=σ'->Sr c'->Nx fl c c'->LeavesInM F n P fn tmps R [] .returning c'.w)->LeavesInM F n P fn tmps R ds .returning c.w
 | [],[],c,σ',h,hs,_,hR=>by
   simp only[NV,yAb]at h;exact hR c h hs (.refl _ _)
 |m::ms,d::ds,c,σ',h,hs,hm,hR=>by
  obtain⟨⟨b,h1,h2,h3,h4⟩,h5⟩:=hm;simp only[NV]at h;split at h
  .rename_i hfl;split at h
   .rename_i hmk;obtain⟨b',e1,e2⟩:=hs.mark m h2 hmk;have e:=aHu (h4.symm.trans e1);subst e;have nx:Nx fl c (c.put (c.w.putObj b (.deferred none)) m (c.ρ m) .none):=Nx.CT hs h2 hmk trivial trivial (by rw[h4];rfl) hfl e2 wz;have hs':Sr (c.put (c.w.putObj b (.deferred none)) m (c.ρ m) .none):=Sr.CT hs h2 hmk trivial trivial (by rw[h4];rfl) e2 wz trivial;refine⟨wz,.inl ⟨b,c.w.putObj b (.deferred none),h1,run_takeDeferred e2,?_⟩⟩;exact aHv ms ds _ σ' h hs' (h5.mono nx) (λc' q1 q2 q3=>hR c' q1 q2 (nx.trans q3))
   .exact ah
  .exact ah
 | [],_::_,_,_,_,_,hm,_=>by cases hm
 |_::_,[],_,_,_,_,hm,_=>hm.elim
theorem Leaves.of{c c':Cx}{p:PD}{v:Value}(hs:Sr c')(nx:Nx fl c c')(hv:VR c' v p):Leaves fl c p c'.σ v c'.w:=
 ⟨c',rfl,rfl,hs,nx,hv,λid hd=>(nx.new id hd).imp (λh=>h) (λh=>⟨h,hs.aW id hd⟩)⟩
theorem aHw{c:Cx}:∀(ts:List Tmp) (vs:List Value) (ps:List PD) (a:List Value) (fr:List PD),aJ c vs ps->aJ c a fr->ts.length=vs.length->aJ c ((ts.zip vs).foldl (λtmps x=>tmps.set x.1 x.2) a) (NU fr ts ps)
 | [],_,_,a,fr,_,h,_=>by simpa [NU]using h
 |t::ts,[],_,_,_,_,_,hl=>by simp at hl
 |t::ts,v::vs,[],_,_,hv,_,_=>Bm
 |t::ts,v::vs,p::ps,a,fr,hv,h,hl=>by
  simp only[List.zip_cons_cons,yCR,NU];refine aHw ts vs ps _ _ ⟨by simpa using hv.1,λi u d hu hd=>hv.2 (i+1) u d yx zc⟩ ⟨by simpa using h.1,λi u d hu hd=>?_⟩ Ad;rw[yCs]at hu hd
  by_cases e:t=i
  .subst e;simp only[yAM]at hu hd;split at hu
   .split at hd
    .simp only[yAb]at hu hd;subst hu hd;exact hv.2 0 _ _ rfl rfl
    .simp at hd
   .simp at hu
  .rw[yAI e]at hu hd;exact h.2 i u d hu hd
theorem aHx:∀(l:List (Tmp×Value)) (a:Array Value),(l.foldl (λtmps x=>tmps.setIfInBounds x.1 x.2) a).toList=l.foldl (λtmps x=>tmps.set x.1 x.2) a.toList
 | [],a=>rfl
 |x::l,a=>by simp only[yCR];rw[aHx l];simp
theorem NZ{c:Cx}(hs:Sr c){id l:Nat}{st:RF}{fr:Bw}{ps:List Tmp}{asg bd:Code}(hd:c.D id)(ho:c.σ[id]?=some (.loop st fr ps asg bd))(hr:c.ρ id=.pointer (some ⟨l,0,none⟩)) :
  ∃r,c.w.heap[l]?=some (.loop r)/\r.params=ps.toArray/\r.assign=asg/\r.body=bd/\aJ c r.tmps.toList fr/\st.fits r:=by
 obtain⟨b,r,e1,e2,e3⟩:=hs.loop id st fr ps asg bd hd ho;have e:=aHu (hr.symm.trans e1);subst e;exact⟨r,e2,e3⟩
theorem aAi{c:Cx}(hs:Sr c){id l:Nat}{st st':RF}{fr:Bw}{ps:List Tmp}{asg bd:Code}{r r':Loop}(hd:c.D id)(ho:c.σ[id]?=some (.loop st fr ps asg bd))(hr:c.ρ id=.pointer (some ⟨l,0,none⟩))(hfl:fl<=id)
  (hh:c.w.heap[l]?=some (.loop r)) (h1:r'.params=ps.toArray) (h2:r'.assign=asg) (h3:r'.body=bd) (h4:aJ c r'.tmps.toList fr) (h5:st'.fits r') :
  ∃c',c'.w=c.w.putObj l (.loop r')/\c'.σ=c.σ.set id (.loop st' fr ps asg bd)/\Sr c'/\Nx fl c c':=
 ⟨c.put (c.w.putObj l (.loop r')) id (c.ρ id) (.loop st' fr ps asg bd),rfl,rfl,Sr.CT hs hd ho trivial trivial zp hh wz ⟨hr,r',rfl,h1,h2,h3,h4,h5⟩,Nx.CT hs hd ho trivial trivial zp hfl hh wz⟩
theorem aCU{c:Cx}(hs:Sr c){id l:Nat}{st:RF}{fr:Bw}{ps:List Tmp}{asg bd:Code}{r r':Loop}(hd:c.D id)(ho:c.σ[id]?=some (.loop st fr ps asg bd))(hr:c.ρ id=.pointer (some ⟨l,0,none⟩))(hfl:fl<=id)
  (hh:c.w.heap[l]?=some (.loop r)):∃c',c'.w=c.w.putObj l (.loop r')/\c'.σ=c.σ.set id .none/\Sr c'/\Nx fl c c':=
 ⟨c.put (c.w.putObj l (.loop r')) id (c.ρ id) .none,rfl,rfl,Sr.CT hs hd ho trivial trivial zp hh wz trivial,Nx.CT hs hd ho trivial trivial zp hfl hh wz⟩
theorem aOV{code:N5}(h:aC2 P code){F:Fence}(hF:Open F P){id l:Nat}{args:Bw}{c:Cx}{vs:Bz}{p:PD}{σ':Bv}(hc:aAj code fl id args c.σ=some (p,σ'))(hs:Sr c)(hX:Xw fl c)
  (hv:aJ c vs args) (hd:c.D id) (hr:c.ρ id=.pointer (some ⟨l,0,none⟩)) :
  ∃g tmps asg bd,(Instr.yield l vs.toArray).run P c.w=.ok (.round l g tmps asg bd) c.w/\∀m,RoundIn F m P l g tmps asg bd c.w (JU fl c p σ'):=by
 unfold aAj at hc;split at hc
 .rename_i hfl;split at hc
  .rename_i fr pp asg bd hlo;split at hc
   .rename_i hlen;obtain⟨r,hh,hp,ha,hb,ht,hst⟩:=NZ hs hd hlo hr;have hvl:=hv.1;refine⟨_,_,_,_,run_yield hh (by simp[hp,hvl,hlen]),λm=>?_⟩;have hFl:Open (F.inRound l) P:=⟨hF.fn,hF.depth,hF.name,hF.alive⟩;refine roundIn_of_wpIn (hF.fn _) ?_;split at hc
    .rename_i aG ms1 σ1 hassign;have hfr:aJ c ((r.params.zip vs.toArray).foldl (λtmps x=>tmps.setIfInBounds x.1 x.2) r.tmps).toList (NU fr pp args):=by
      rw[<-Array.foldl_toList,aHx,hp];simp only[Array.toList_zip];exact aHw pp vs args _ _ hv ht (by rw[hvl,hlen])
     have hno:pH c.σ[id]?:=by rw[hlo];trivial
     refine mG.wpIn ?_;rw[ha];refine h (a:={ tmps:=_,defers:=[] }) (B:=[]) hFl hassign hs hX ⟨hfr,hs.gU⟩ rfl (⟨l,rfl,hd,hno,hr⟩:CQ (F.inRound l) c (some id)) m _ λc1 a1 e1 hs1 fS eK iO=>?_
     simp only at e1 iO;have eK:=eK.all (λ_ h=>xz);simp only at eK;simp only[PX.VQ,Exit.then];obtain⟨er,aHy⟩:=fS.lP id hd hno;have oL:=fS.aW id hd;have KC:=er.trans hr;split at hc
     .rename_i gY RB RD RE hlo1;rw[<-e1]at hlo1;obtain⟨r1,hh1,mH,ha1,nV,KD,aOW⟩:=NZ hs1 oL hlo1 KC;refine⟨_,run_beginRound hh1 aOW.1,?_⟩;obtain⟨c2,w2,e2,hs2,eB⟩:=aAi (fl:=fl) hs1 (st':=.busy) (r':={ r1 with state:=.busy }) oL hlo1 KC hfl hh1 mH ha1 nV KD rfl;have aCT:pH c2.σ[id]?:=(eB.lP id oL aHy).2;have hr2:=(eB.lP id oL aHy).1.trans KC;have lO:=eB.aW id oL;rw[<-w2];split at hc
      .rename_i x vP ms2 σ2 hbody;rw[e1.symm,<-e2]at hbody;have NY:=hX.next hs fS;refine mG.wpIn ?_;rw[hb];refine h (a:=a1) hFl hbody hs2 (NY.next hs1 eB) (FR.mono eB eK) (iO.mono eB) (⟨l,rfl,lO,aCT,hr2⟩:CQ (F.inRound l) c2 (some id)) m _ λc3 a3 e3 hs3 nR _ _=>?_
       simp only at e3;have KE:=nR.aW id lO;have hr3:=(nR.lP id lO aCT).1.trans hr2;have aC4:Nx fl c c3:=fS.trans (eB.trans nR);split at hc
       .rename_i fr3 VV as3 bd3 hlo3;rw[<-e3]at hlo3;obtain⟨r3,RG,hp3,ha3,VW,ht3,aHz⟩:=NZ hs3 KE hlo3 hr3;cases x with
        |normal=>
         simp only[yAb,yAc]at hc;obtain⟨rfl,rfl⟩:=hc;obtain⟨c4,w4,e4,VX,VY⟩:=aAi (fl:=fl) hs3 (st':=.ready) (r':={ r3 with state:=.ready,pending:=none }) KE hlo3 hr3 hfl RG hp3 ha3 VW ht3 ⟨rfl,rfl⟩;refine⟨_,_,run_endRound none RG,?_⟩;have:=Leaves.of (p:=.bool true) (v:=.bool true) VX (aC4.trans VY) (.bool true);rw[w4,e4,e3]at this;exact this
        |ret=>
         simp only[yAb,yAc]at hc;obtain⟨rfl,rfl⟩:=hc;obtain⟨c4,w4,e4,VX,VY⟩:=aAi (fl:=fl) hs3 (st':=.done .ret) (r':={ r3 with state:=.done,pending:=some .ret }) KE hlo3 hr3 hfl RG hp3 ha3 VW ht3 ⟨rfl,rfl⟩;refine⟨_,_,run_endRound (some .ret) RG,?_⟩;exact jk
        |exit k=>
         simp only[yAb,yAc]at hc;obtain⟨rfl,rfl⟩:=hc;obtain⟨c4,w4,e4,VX,VY⟩:=aAi (fl:=fl) hs3 (st':=.done (.exit k)) (r':={ r3 with state:=.done,pending:=some (.exit k) }) KE hlo3 hr3 hfl RG hp3 ha3 VW ht3 ⟨rfl,rfl⟩;refine⟨_,_,run_endRound (some (.exit k)) RG,?_⟩;exact jk
        |panic v=>simp at hc
       .simp at hc
      .simp at hc
     .simp at hc
    .simp at hc
   .simp at hc
  .simp at hc
 .simp at hc
def aOX(P:Program)(E:aE):Prop:=
 ∀ {F:Fence} {fl:Nat} {f:FuncId} {g:Bq} {args:Bw} {c:Cx} {vs:Bz} {p:PD} {σ':Bv},Open F P->E f=some g->g fl args c.σ=some (p,σ')->Sr c->Xw fl c->aJ c vs args ->
   (∃fn,P.funcs[f]?=some fn/\fn.body.isSome=true)/\∀m,CallsIn F m P f vs.toArray c.w (JU fl c p σ')
def aC5(fl:Nat)(c:Cx)(v:Value)(σ':List U):Ending->World->Prop
 |.panicked ch,w'=>ch=[{ v,recovered:=false }]/\∃c':Cx,c'.w=w'/\c'.σ=σ'/\Sr c'/\Nx fl c c'
 |_,_=>False
def aCX(P:Program)(q:FuncId->Option (Nat->List PD->List U->Option (Value×List U))):Prop:=
 ∀ {F:Fence} {fl:Nat} {f:FuncId} {g:Nat->List PD->List U->Option (Value×List U)} {args:Bw} {c:Cx} {vs:Bz} {v:Value} {σ':Bv},Open F P->q f=some g->g fl args c.σ=some (v,σ')->Sr c->Xw fl c->aJ c vs args ->
   (∃fn,P.funcs[f]?=some fn/\fn.body.isSome=true)/\∀m,CallsIn F m P f vs.toArray c.w (aC5 fl c v σ')
structure aH (P:Program) (E:aE):Prop where
 ret:aOX P E
 aZ:aCX P E.aZ
theorem aHs{E:aE}{code:N5}(hE:aH P E)(h:aC2 P code){F:Fence}(hF:Open F P):Ok F P (oJ P E code) where
 round:=λhc hs hX hv hd hr=>aOV h hF hc hs hX hv hd hr
 fn:=by
  intro fl f args c vs p σ' hc hs hX hv;simp only[oJ]at hc;split at hc
  .rename_i g hg;exact hE.ret hF hg hc hs hX hv
  .unfold aAg at hc;split at hc
   .rename_i fn hfn;split at hc
    .rename_i bd hbd;refine⟨⟨fn,hfn,by simp[hbd]⟩,λm=>?_⟩;split at hc
     .rename_i r hr;have tL:Open { F with round:=none } P:=⟨hF.fn,hF.depth,hF.name,hF.alive⟩;have key:CallsIn { F with round:=none } m P f vs.toArray c.w (JU fl c p σ'):=by
       refine yDC hfn hbd (hF.fn f) (mG.wpIn ?_);have hfr:aJ c (vs.toArray++Array.replicate (fn.ntmps-vs.toArray.size) undef).toList (args++List.replicate (fn.ntmps-args.length) (.aK [])):=by
        exact ai
       refine h (a:={ tmps:=_,defers:=[] }) (B:=[]) tL hr hs hX ⟨hfr,hs.gU⟩ rfl (rfl:CQ { F with round:=none } c none) m _ λc1 a1 e1 hs1 fS eK iO=>?_
       have leave:(∀k,r.x≠.exit k)->(∀v,r.x≠.panic v)->LeavesInM { F with round:=none } m P fn a1.tmps (JU fl c p σ') a1.defers .returning c1.w:=by
        intro hx hy;unfold vL at hc;have hc:(match NV fl r.ms r.σ with
          |some σ=>match oI P r.fr σ fn.results.toList with
           |some ps=>some (LV ps,σ)
           |none=>none
          |none=>none)=some (p,σ'):=by
         split at hc
         .rename_i k hk;exact absurd hk (hx k)
         .rename_i k hk;exact absurd hk (hy k)
         .exact hc
        split at hc
        .rename_i σ1 hdm;split at hc
         .rename_i qs hqs;simp only[yAb,yAc]at hc;obtain⟨rfl,rfl⟩:=hc;rw[<-e1]at hdm;refine aHv r.ms a1.defers c1 σ1 hdm hs1 iO λc2 e2 hs2 eB=>?_
          rw[<-e2]at hqs;obtain⟨v,rv,hvv⟩:=aC6 (P:=P) hs2 (FR.mono eB (eK.all hy)) hqs;refine⟨v,rv,?_⟩;have:=Leaves.of hs2 (fS.trans eB) hvv;rw[e2]at this;exact this
         .simp at hc
        .simp at hc
       cases hx:r.x with
       |normal=>exact leave (by rw[hx];simp) (by rw[hx];simp)
       |ret=>exact leave (by rw[hx];simp) (by rw[hx];simp)
       |panic v=>exfalso;unfold vL at hc;rw[hx]at hc;simp at hc
       |exit k=>exfalso;unfold vL at hc;rw[hx]at hc;simp at hc
      exact⟨key.1,key.2⟩
     .simp at hc
    .simp at hc
   .simp at hc
end
end
section
open Go.RowKit
section
variable{F:Fence}{P:Program}{call:cO}{fl:Nat}{B:List Deferred}
theorem aHo(hF:Open F P)(hc:Ok F P call){c1:Cx}{id l n:Nat}{a a':Act}{g:Operand}{gf:FuncId}{cap fr:Bw}{ms:List Nat}{q:PD}{σ2:Bv}{r:PO}{Q:Exit->Act->World->Prop}
  (hs1:Sr c1) (NY:Xw fl c1) (hd:c1.D id) (hρ:c1.ρ id=.pointer (some ⟨l,0,none⟩)) (hno:pH c1.σ[id]?) (hfl:fl<=id) (hg:VR c1 (a.eval g) (.func gf cap))
  (hcall:call fl (.inl gf) (.yield id::cap) c1.σ=some (q,σ2)) (hleave:VI id fr ms σ2=some r) (hf:FR c1 a' fr) (hm:MR B c1 a'.defers ms)
  (hQ:∀kG lN,kG.σ=r.σ->Sr kG->Nx fl c1 kG->FR kG lN r.fr->MR B kG lN.defers r.ms->Q r.x.VQ lN kG.w) :
  ∃(d:Deferred) (w₁':World) (f:FuncId) (args:Array Value) (w₂:World),(resolve a.eval (rangeCall g l) 0).run P c1.w=.ok d w₁'/\(∀f',Target.leads P w₁' d.target d.args=some f'->F.fn f') /\
   (invoke d.target d.args).run P w₁'=.ok (.enter f args) w₂/\(F.depth.isSome=true->1<=n)/\CallsIn F (n-1) P f args w₂ (rangePost F n P l Q a'):=by
 obtain⟨cs,e,hcs⟩:=hg.RA;have hy:VR c1 (.func (.yield l) #[] #[]) (.yield id):=.yield id l hd hno hρ;have hvs:aJ c1 (.func (.yield l) #[] #[]::cs) (.yield id::cap):=⟨by simpa using hcs.1,λi u d hu hd'=>by
  cases i with
  |zero=>simp at hu hd';subst hu hd';exact hy
  |succ i=>exact hcs.2 i u d yx (by simpa using hd')⟩
 obtain⟨⟨fn,hfn,hb⟩,hcalls⟩:=hc.fn hcall hs1 NY hvs;have hb':fn.body.isNone=false:=Ba;have hn:=hF.name gf fn hfn;refine⟨{ target:=.fn (.func gf) cs.toArray,args:=#[.func (.yield l) #[] #[]] },c1.w,gf,(.func (.yield l) #[] #[]::cs).toArray,c1.w,?_,λf' _=>hF.fn f',?_,hF.asks,yBS (hcalls _) λen w3 he=>?_⟩
 .simp only[rangeCall,resolve,e,Deferred.ofValue];simp[Act.eval]
 .have e2:(#[.func (.yield l) #[] #[]]++cs.toArray:Array Value)=(.func (.yield l) #[] #[]::cs).toArray:=by apply yBK;simp
  simp only[invoke,callFunc,yAV,run_program,hfn,hn,hb',yAx,yAN,yAY,yAX,e2]
 .cases en with
  |panicked ch=>exact he.elim
  |outgrown=>exact he.elim
  |returned v=>
   obtain⟨c2,rfl,e2,hs2,eB,_,_⟩:=he;have lO:=eB.aW id hd;obtain⟨er,aCT⟩:=eB.lP id hd hno;have pI:=er.trans hρ;unfold VI at hleave;rw[<-e2]at hleave;split at hleave
   .rename_i gY RB RD RE hlo;simp only[yAb]at hleave;subst hleave;obtain⟨r2,hh,_,_,_,_,hst⟩:=NZ hs2 lO hlo pI;obtain⟨c3,w3,e3,hs3,nR⟩:=aCU (fl:=fl) (r':={ r2 with state:=.exhausted }) hs2 lO hlo pI hfl hh;refine⟨_,_,run_endLoop hh (by rw[hst.1];simp),?_⟩;rw[<-w3,hst.2];exact hQ c3 a' e3 hs3 (eB.trans nR) ((hf.mono eB).mono nR) ((hm.mono eB).mono nR)
   .rename_i gY RB RD RE hlo;simp only[yAb]at hleave;subst hleave;obtain⟨r2,hh,_,_,_,_,hst⟩:=NZ hs2 lO hlo pI;obtain⟨c3,w3,e3,hs3,nR⟩:=aCU (fl:=fl) (r':={ r2 with state:=.exhausted }) hs2 lO hlo pI hfl hh;refine⟨_,_,run_endLoop hh (by rw[hst.1];simp),?_⟩;rw[<-w3,hst.2];exact wpIn_ret (hQ c3 a' e3 hs3 (eB.trans nR) ((hf.mono eB).mono nR) ((hm.mono eB).mono nR))
   .rename_i k gY RB RD RE hlo;simp only[yAb]at hleave;subst hleave;obtain⟨r2,hh,_,_,_,_,hst⟩:=NZ hs2 lO hlo pI;obtain⟨c3,w3,e3,hs3,nR⟩:=aCU (fl:=fl) (r':={ r2 with state:=.exhausted }) hs2 lO hlo pI hfl hh;refine⟨_,_,run_endLoop hh (by rw[hst.1];simp),?_⟩;rw[<-w3,hst.2];exact wpIn_exit (hQ c3 a' e3 hs3 (eB.trans nR) ((hf.mono eB).mono nR) ((hm.mono eB).mono nR))
   .simp at hleave
theorem aON(hF:Open F P)(hc:Ok F P call){rd:Option Nat}{gf:FuncId}{cap fr:Bw}{ps:Array Tmp}{assign body:Code}{ms:List Nat}{cx:Cx}{a:Act}{r:PO}{m:Nat}{Q:Exit->Act->World->Prop}{g:Operand}
  (h:aCV call rd gf cap ps.toList assign body fl fr ms cx.σ=some r) (hs:Sr cx) (hX:Xw fl cx) (hf:FR cx a fr) (hm:MR B cx a.defers ms) (hr:CQ F cx rd) (hg:VR cx (a.eval g) (.func gf cap))
  (hQ:∀kG lN,kG.σ=r.σ->Sr kG->Nx fl cx kG->FR kG lN r.fr->MR B kG lN.defers r.ms->Q r.x.VQ lN kG.w):(Code.rangeFunc g ps assign body).wpIn F m P Q a cx.w:=by
 refine wpIn_rangeFunc λfn _=>?_
 unfold aCV at h;split at h
 .rename_i hfl;split at h
  ·
   split at h
   .rename_i q σ2 hcall;have hro:F.round=none:=hr;have g1:cx.w.grownBy (cx.w.alloc (.deferred (some []))) none:=HT _ _;have b1:∀b,aV (.pointer (some ⟨cx.w.heap.size,0,none⟩))=some b->cx.w.heap.size<=b/\b<(cx.w.alloc (.deferred (some []))).heap.size:=λb hb=>by simp[aV]at hb;subst hb;simp
    let c1:=cx.push (cx.w.alloc (.deferred (some []))) (.pointer (some ⟨cx.w.heap.size,0,none⟩)) .mark
    have hs1:Sr c1:=Sr.push hs g1 b1 ⟨_,rfl,yBB _ _⟩;have fS:Nx fl cx c1:=Nx.push hs g1 (λb hb=>(b1 b hb).1);have l1:c1.σ.length=cx.σ.length+1:=by simp[c1,Cx.push]
    let vO:Loop:={ state:=.ready,pending:=none,fn,tmps:=a.tmps,params:=ps,assign,body,defers:=cx.w.heap.size }
    have g2:c1.w.grownBy (c1.w.alloc (.loop vO)) none:=HT _ _;have J9:c1.w.heap.size=cx.w.heap.size+1:=by show(cx.w.alloc _).heap.size=_;simp
    have b2:∀b,aV (.pointer (some ⟨cx.w.heap.size+1,0,none⟩))=some b->c1.w.heap.size<=b/\b<(c1.w.alloc (.loop vO)).heap.size:=λb hb=>by simp[aV]at hb;subst hb;simp[J9]
    have hnew:(c1.w.alloc (.loop vO)).heap[cx.w.heap.size+1]?=some (.loop vO):=by rw[<-J9];exact yBB _ _
    let c2:=c1.push (c1.w.alloc (.loop vO)) (.pointer (some ⟨cx.w.heap.size+1,0,none⟩)) (.loop .ready fr ps.toList assign body)
    have hs2:Sr c2:=Sr.push hs1 g2 b2 ⟨_,_,rfl,hnew,by simp[vO],rfl,rfl,aJ.mono fS hf.1,⟨rfl,rfl⟩⟩;have eB:Nx fl c1 c2:=Nx.push hs1 g2 (λb hb=>(b2 b hb).1);have VS:=fS.trans eB;have aCW:c2.σ=cx.σ++[.mark]++[.loop .ready fr ps.toList assign body]:=rfl;have pn:=fB (c:=c1) (w:=c1.w.alloc (.loop vO)) (v:=.pointer (some ⟨cx.w.heap.size+1,0,none⟩)) (o:=.loop .ready fr ps.toList assign body);rw[l1]at pn;rw[<-aCW]at hcall;obtain⟨d,w₁',f,args,w₂,h1,h2,h3,h4,h5⟩:=aHo (n:=m) (a:=a) (a':={ a with defers:=[{ target:=.collected cx.w.heap.size,args:=#[] }]++a.defers }) (g:=g) (Q:=Q) hF hc hs2 (hX.next hs VS) pn.2.2 pn.2.1 (by rw[pn.1];trivial) xb (hg.mono VS) hcall h (hf.mono VS)
     ⟨⟨_,rfl,eB.aW _ (.inr rfl),by rw[CR (id:=cx.σ.length) hs1 (.inr rfl),fB.1];trivial,(nS hs1 (.inr rfl)).trans fB.2.1⟩,hm.mono VS⟩
     (λkG lN e1 q1 q2 q3 q4=>hQ kG lN e1 q1 (VS.trans q2) q3 q4)
    refine⟨_,_,c2.w,d,w₁',f,args,w₂,?_,h1,h2,h3,h4,h5⟩;rw[hro];exact run_enterLoop_outer fn a.tmps ps assign body
   .exact ah
  ·
   rename_i id0;split at h
   .rename_i st0 gY RB RD RE hlo0;split at h
    .rename_i q σ2 hcall;obtain⟨l0,hro,CS,a1f,aOO⟩:=hr;obtain⟨r0,hh0,_⟩:=NZ hs CS hlo0 aOO
     let vO:Loop:={ state:=.ready,pending:=none,fn,tmps:=a.tmps,params:=ps,assign,body,defers:=r0.defers }
     have g2:cx.w.grownBy (cx.w.alloc (.loop vO)) none:=HT _ _;have b2:∀b,aV (.pointer (some ⟨cx.w.heap.size,0,none⟩))=some b->cx.w.heap.size<=b/\b<(cx.w.alloc (.loop vO)).heap.size:=λb hb=>by simp[aV]at hb;subst hb;simp
     let c2:=cx.push (cx.w.alloc (.loop vO)) (.pointer (some ⟨cx.w.heap.size,0,none⟩)) (.loop .ready fr ps.toList assign body)
     have hs2:Sr c2:=Sr.push hs g2 b2 ⟨_,_,rfl,yBB _ _,by simp[vO],rfl,rfl,hf.1,⟨rfl,rfl⟩⟩;have eB:Nx fl cx c2:=Nx.push hs g2 (λb hb=>(b2 b hb).1);have aCW:c2.σ=cx.σ++[.loop .ready fr ps.toList assign body]:=rfl;have pn:=fB (c:=cx) (w:=cx.w.alloc (.loop vO)) (v:=.pointer (some ⟨cx.w.heap.size,0,none⟩)) (o:=.loop .ready fr ps.toList assign body);rw[<-aCW]at hcall;obtain⟨d,w₁',f,args,w₂,h1,h2,h3,h4,h5⟩:=aHo (n:=m) (a:=a) (a':={ a with defers:=[]++a.defers }) (g:=g) (Q:=Q) hF hc hs2 (hX.next hs eB) pn.2.2 pn.2.1 (by rw[pn.1];trivial) hfl (hg.mono eB) hcall h (hf.mono eB)
      (hm.mono eB) (λkG lN e1 q1 q2 q3 q4=>hQ kG lN e1 q1 (eB.trans q2) q3 q4)
     refine⟨_,_,c2.w,d,w₁',f,args,w₂,?_,h1,h2,h3,h4,h5⟩;rw[hro];unfold Instr.enterLoop;simp only[yAV,run_getLoop hh0,run_newObj_alloc,Result.andThen,yAY];rfl
    .exact ah
   .exact ah
 .exact ah
theorem PD.aOP{c:Cx}{v u:Value}{p:PD}(hv:VR c v p)(h:p.scalar=some u):v=u:=by
 cases hv<;>simp[PD.scalar]at h<;>exact h
theorem aHp{c:Cx}:∀ {vs us:Bz} {ps:Bw},aJ c vs ps->scalars ps=some us->vs=us
 | [],us,[],_,h=>by simpa [scalars]using h
 |v::vs,us,[],hv,_=>Bm
 | [],us,p::ps,hv,_=>Bm
 |v::vs,us,p::ps,hv,h=>by
  simp only[scalars]at h;split at h
  .rename_i a b h1 h2;simp only[yAb]at h;subst h;rw[PD.aOP (hv.2 0 v p rfl rfl) h1,aHp (vs:=vs) (ps:=ps) ⟨by simpa using hv.1,λi u d hu hd=>hv.2 (i+1) u d yx zc⟩ h2]
  .cases h
theorem PD.L2{c:Cx}{v u:Value}{p:PD}(hv:VR c v p)(h:p.fail=some u):v=u/\∃t x,u=.iface t x:=by
 unfold PD.fail at h;split at h
 .rename_i t cs;split at h
  .rename_i vs hvs;simp only[yAb]at h;subst h;cases hv with
   |iface _ v0 _ h0=>
    cases h0 with
    |agg cs0 _ hl h1 h2=>exact⟨by rw[aHp (c:=c) ⟨hl,h2⟩ hvs],_,_,rfl⟩
  .cases h
 .cases h
theorem aOQ{E:aE}{n:Nat}{c:Cx}{Q:Exit->Act->World->Prop}(hF:Open F P)(hp:aCX P E.aZ)(hs:Sr c)(hX:Xw fl c){a:Act}{fr:Bw}(hf:FR c a fr){o:Oper}{v:Value}{σ':Bv}
  (h:nU E fl fr c.σ o.op=some (v,σ')) {K:Act->World->Prop} (hK:∀c':Cx,c'.σ=σ'->Sr c'->Nx fl c c'->Q (.panic [{ v,recovered:=false }]) a c'.w):o.wpIn F n P a c.w K Q:=by
 have hnd:∀d,o.op≠.defer d:=by
  intro d e;rw[e]at h;simp[nU,dI]at h
 refine⟨λf _=>hF.fn f,?_⟩;rw[yCQ _ _ _ hnd];unfold nU at h;split at h
 .rename_i x hop;split at h
  .rename_i p hx;split at h
   .rename_i u hu;simp only[yAb,yAc]at h;obtain⟨rfl,rfl⟩:=h;obtain⟨e,t,y,rfl⟩:=PD.L2 (cL hf hx) hu;have hr:(execOp a.eval o).run P c.w=.halt (.panic (.iface t y)) c.w:=by
     obtain⟨dst,op,ty,pos,after,guard⟩:=o;simp only at hop;subst hop;simp only[execOp,e,Instr.panic];rfl
    rw[hr];exact hK c rfl hs (.refl _ _)
   .cases h
  .cases h
 .split at h
  .rename_i f args htg;split at h
   .rename_i g hg;split at h
    .split at h
     .rename_i q hq;obtain⟨vs0,aCY⟩:∃vs:List Value,aJ c vs args:=by
       exact bh
      obtain⟨⟨fn,hfn,hb⟩,_⟩:=hp hF hq h hs hX aCY;obtain⟨vs,r,hvs⟩:=aHq (P:=P) hf htg hfn hb (hF.name f fn hfn);rw[r];refine⟨hF.asks,yBS ((hp hF hq h hs hX hvs).2 _) λe w'' he=>?_⟩;cases e with
      |returned v=>exact he.elim
      |panicked chain=>
       obtain⟨rfl,c',rfl,e1,hs',nx⟩:=he;exact hK c' e1 hs' nx
      |outgrown=>exact he.elim
     .cases h
    .cases h
   .cases h
  .cases h
theorem aOR{E:aE}{n:Nat}{Q:Exit->Act->World->Prop}(hF:Open F P)(hc:Ok F P call)(hp:aCX P E.aZ){ops:Cb}:∀(l:List Oper) (i:Nat) (_:ops.toList.drop i=l) {c:Cx} (_:Sr c) (_:Xw fl c) {a:Act} {fr:Bw} (_:FR c a fr) {v:Value} {fr':Bw} {σ':Bv}
  (_:HS P E call fl ops l fr c.σ=some (v,fr',σ'))
  (_:∀c' a',c'.σ=σ'->Sr c'->Nx fl c c'->FR c' a' fr'->a'.defers=a.defers->Q (.panic [{ v,recovered:=false }]) a' c'.w),wpOpsIn F n P ops Q (List.range' i l.length) a c.w:=by
 intro l
 induction l with
 |nil=>
  intro i _ c hs hX a fr hf v fr' σ' h hQ;simp[HS]at h
 |cons o rest ih=>
  intro i hdrop c hs hX a fr hf v fr' σ' h hQ;have hi:i<ops.toList.length:=by
   exact ny
  have ho:ops[i]?=some o:=by
   exact kr
  have vN:ops.toList.drop (i+1)=rest:=by
   rw[<-yBk,hdrop];rfl
  simp only[yAK,yCy,wpOpsIn,ho];rw[aC0 hf];simp only[HS]at h;split at h
  .rename_i hw;rw[yAJ hw];split at h
   .rename_i p σ1 hst;refine aC1 hF hc hs hX hf hst λv' w' hl=>?_
    exact ek
   .split at h
    .rename_i u σ1 hpo;simp only[yAb,yAc]at h;obtain⟨rfl,rfl,rfl⟩:=h;exact aOQ hF hp hs hX hf hpo λc' e1 hs' nx=>hQ c' a e1 hs' nx (hf.mono nx) rfl
    .cases h
  .exact ew
theorem VR.aOS{c:Cx}{v:Value}{p:PD}(h:VR c v p):p.marked=false:=by
 have key:∀ {v:Value} {p:PD},VR c v p->p.N0=false:=by
  intro v p h;cases h with
  |bL _ hu=>
   cases v with
   |bool b=>cases hu
   |_=>rfl
  |_=>rfl
 cases h with
 |agg cs ds hl h1 h2=>
  simp only[PD.marked,List.any_eq_false];intro x hx;obtain⟨i,hi,rfl⟩:=List.getElem_of_mem hx;rw[key (h2 i cs[i] ds[i] (yAh xb) (yAh hi))];simp
 |bL _ hu=>
  cases v with
  |bool b=>cases hu
  |_=>rfl
 |_=>rfl
theorem aOT{E:aE}{n:Nat}{c0:Cx}{Q:Exit->Act->World->Prop}(hF:Open F P)(hE:aH P E){ops:Cb}(hs:Sr c0)(hX:Xw fl c0){a:Act}{fr:Bw}(hf:FR c0 a fr){v:Value}{τ:Bv}(h:N3 P E fl ops fr c0.σ=some (v,τ))
  (hQ:∀c' a',c'.σ=τ->Sr c'->Nx fl c0 c'->(∃vP,FR c' a' vP/\∀i,i<7->vP[i]?=fr[i]?)->a'.defers=a.defers->Q (.panic [{ v,recovered:=false }]) a' c'.w):wpAnyIn F n P .any ops Q ops.size (Array.replicate ops.size false) a c0.w:=by
 unfold N3 at h;split at h
 .split at h
  .rename_i v1 τ1 v2 kH _ _;split at h
   .rename_i hc;simp only[yAb,yAc]at h;obtain⟨rfl,rfl⟩:=h;obtain⟨_,_,hlow,f,x,fr',σ',hx,hm,hxm⟩:=hc;have hok:Ok F P (cN (E.HU fl f x v1 τ1)) (λc ch w'=>ch=[{ v:=v1,recovered:=false }]/\∃c':Cx,c'.w=w'/\c'.σ=τ1/\Sr c'/\Nx fl c c'):=by
     have up:∀ {c:Cx} {bU:Nat} {p:PD} {σ1:Bv} {e:Ending} {w':World},JU bU c p σ1 e w'->aAh (λc ch w'=>ch=[{ v:=v1,recovered:=false }]/\∃c':Cx,c'.w=w'/\c'.σ=τ1/\Sr c'/\Nx fl c c') bU c p σ1 e w':=by
      intro c bU p σ1 e w' h;cases e with
      |returned v=>exact h
      |panicked ch=>exact h.elim
      |outgrown=>exact h
     refine⟨fun {bU f' args c vs p σ1} hg hs1 NY kQ=>?_,λhg=>Ay⟩;simp only[cN,aE.HU]at hg;split at hg
     .rename_i g hE1;split at hE1
      .rename_i e;subst e;simp only[yAb]at hE1;subst hE1;unfold N4 at hg;split at hg
       .rename_i g0 VT;split at hg
        .rename_i r L3;simp only[yAb]at hg;subst hg;obtain⟨k1,k2⟩:=hE.ret hF VT L3 hs1 NY kQ;exact⟨k1,λm=>yBS (k2 m) λe w' he=>up he⟩
        .split at hg
         .rename_i q hq;split at hg
          .rename_i hc2;obtain⟨rfl,hq2⟩:=hc2;obtain⟨k1,k2⟩:=hE.aZ hF hq hq2 hs1 NY kQ;refine⟨k1,λm=>yBS (k2 m) λe w' he=>?_⟩;cases e with
           |returned v=>exact he.elim
           |panicked ch=>exact he
           |outgrown=>exact he.elim
          .cases hg
         .cases hg
       .cases hg
      .obtain⟨k1,k2⟩:=hE.ret hF hE1 hg hs1 NY kQ;exact⟨k1,λm=>yBS (k2 m) λe w' he=>up he⟩
     .cases hg
    refine aHr hF hok hs hX hf hx (λc' a' _ _ _ hf' _=>?_) (λc a' aG ch w' hs' nx eK hl1 hd hp=>?_)
    .exfalso
     obtain⟨y,hy,hym⟩:=List.any_eq_true.1 hm;obtain⟨i,hi,rfl⟩:=List.getElem_of_mem hy;have hl:i<a'.tmps.toList.length:=by rw[hf'.1.1];exact hi
     rw[(hf'.1.2 i _ _ (yAh hl) (yAh hi)).aOS]at hym;cases hym
    .obtain⟨rfl,c',rfl,e,hs2,eB⟩:=hp;exact hQ c' a' e hs2 (nx.trans eB) ⟨aG,eK.mono eB,λi hi=>hl1 i (λo ho hd=>by have:=yAn.1 hlow o yz;simp only[hd]at this;exact absurd (yDg this) (Nat.not_le.2 hi))⟩ hd
   .cases h
  .cases h
 .cases h
end
theorem VU{P:Program}{E:aE}(hE:aH P E)(hP:P.follows .mixedOrders=true):∀n,aC2 P (gE P E n):=by
 intro n
 induction n with
 |zero=>intro F rd c fl fr ms cx r a B hF h;simp[gE]at h
 |succ n ih=>
  intro F rd c fl fr ms cx r a B hF h hs hX hf hm hr m Q hQ;have hc:Ok F P (oJ P E (gE P E n)):=aHs hE ih hF;unfold gE at h;split at h
  .simp only[yAb]at h;subst h;exact wpIn_skip (hQ cx a rfl hs (.refl _ _) (.of hf) hm)
  .split at h
   .rename_i id ops _ fr' σ' hseq;simp only[yAb]at h;subst h;refine wpIn_region ?_;unfold VP at hseq;rw[List.range_eq_range'];split at hseq
    .rename_i x hx;simp only[yAb]at hseq;subst hseq;have:=aHt (n:=m) (Q:=Q) hF hc ops.toList 0 wz hs hX hf hx (λc' a' e1 q1 q2 q3 q4=>hQ c' a' e1 q1 q2 (.of q3) Bg);exact bn
    .have:=aOU (n:=m) (Q:=Q) hF hc hs hX hf hseq (λc' a' e1 q1 q2 q3 q4=>hQ c' a' e1 q1 q2 (.of q3) Bg);exact bn
   .split at h
    .rename_i id ops _ _ _ v fr' σ' hpan;simp only[yAb]at h;subst h;refine wpIn_region ?_;rw[List.range_eq_range'];have:=aOR (n:=m) (Q:=Q) hF hc hE.aZ ops.toList 0 wz hs hX hf hpan (λc' a' e1 q1 q2 q3 q4=>hQ c' a' e1 q1 q2 (.of q3) Bg);exact bn
    .exact ah
  .split at h
   .rename_i id ops _ fr' σ' hdr;simp only[yAb]at h;subst h;refine wpIn_region_any hP ?_;have hg:cx.w.grownBy cx.w.drew none:=aC3 _;have nx:Nx fl cx (cx.at cx.w.drew):=Nx.grow hs hg;exact aHr (n:=m) (c0:=cx.at cx.w.drew) hF hc (Sr.grow hs hg) (hX.next hs nx) (hf.mono nx) hdr (λc' a' e1 q1 q2 q3 q4=>hQ c' a' e1 q1 (nx.trans q2) (.of q3) (by rw[q4];exact(hm.mono nx).mono q2))
   .split at h
    .rename_i id ops _ _ _ v τ hdr;simp only[yAb]at h;subst h;refine wpIn_region_any hP ?_;have hg:cx.w.grownBy cx.w.drew none:=aC3 _;have nx:Nx fl cx (cx.at cx.w.drew):=Nx.grow hs hg;exact aOT (n:=m) (c0:=cx.at cx.w.drew) hF hE (Sr.grow hs hg) (hX.next hs nx) (hf.mono nx) hdr (λc' a' e1 q1 q2 q3 q4=>hQ c' a' e1 q1 (nx.trans q2) ⟨q3,λhx=>absurd rfl (hx v)⟩ (by rw[q4];exact(hm.mono nx).mono q2))
    .exact ah
  .rename_i x y;refine wpIn_seq ?_;split at h
   .rename_i aG ms1 σ1 hx;refine mG.wpIn (ih hF hx hs hX hf hm hr m _ λc1 a1 e1 hs1 fS eK iO=>?_);simp only at e1 iO;have eK:=eK.all (λ_ h=>xz);simp only at eK;rw[<-e1]at h;exact mG.wpIn (ih hF h hs1 (hX.next hs fS) eK iO (hr.mono fS) m _ λc2 a2 e2 hs2 eB pD hm2=>hQ c2 a2 e2 hs2 (fS.trans eB) pD hm2)
   .exact cm
  .rename_i g x y;split at h
   .rename_i hg;exact wpIn_cond_true (cL hf hg).L1 (mG.wpIn (ih hF h hs hX hf hm hr m Q hQ))
   .rename_i hg;exact wpIn_cond_false (cL hf hg).L1 (mG.wpIn (ih hF h hs hX hf hm hr m Q hQ))
   .exact ah
  .rename_i id b;refine wpIn_block ?_;split at h
   .rename_i k aG ms1 σ1 hx;simp only[yAb]at h;subst h;refine mG.wpIn (ih hF hx hs hX hf hm hr m _ λc1 a1 e1 hs1 fS eK iO=>?_);have:=hQ c1 a1 e1 hs1 fS (.of (eK.all (λ_ h=>xz))) iO;simp only[PX.VQ,Exit.inBlock]
    by_cases hk:k=id
    .simp only[hk,yAM]at this ⊢;exact this
    .simp only[hk,yAN]at this ⊢;exact this
   .rename_i hne;refine mG.wpIn (ih hF h hs hX hf hm hr m _ λc1 a1 e1 hs1 fS eK iO=>?_);have:=hQ c1 a1 e1 hs1 fS eK iO;obtain⟨x',aG,ms1,σ1⟩:=r;cases x' with
    |normal=>exact this
    |ret=>exact this
    |panic v=>exact this
    |exit k=>exact absurd h (hne _ _ _ _)
  .rename_i b;show KB F m P b Q a cx.w
   refine KB.round ?_;split at h
   .rename_i aG ms1 σ1 hx;refine mG.wpIn (ih hF hx hs hX hf hm hr m _ λc1 a1 e1 hs1 fS eK iO=>?_);simp only at e1 iO;have eK:=eK.all (λ_ h=>xz);simp only at eK;rw[<-e1]at h;exact ih hF h hs1 (hX.next hs fS) eK iO (hr.mono fS) m Q λc2 a2 e2 hs2 eB pD hm2=>hQ c2 a2 e2 hs2 (fS.trans eB) pD hm2
   .exact cm
  .rename_i g ps assign body;split at h
   .rename_i gf cap hg;exact aON hF hc h hs hX hf hm hr (cL hf hg) (λc' a' e1 q1 q2 q3 q4=>hQ c' a' e1 q1 q2 (.of q3) q4)
   .exact ah
  .simp only[yAb]at h;subst h;exact wpIn_exit (hQ cx a rfl hs (.refl _ _) (.of hf) hm)
  .simp only[yAb]at h;subst h;exact wpIn_ret (hQ cx a rfl hs (.refl _ _) (.of hf) hm)
  .exact ah
theorem VN{P:Program}{E:aE}(hE:aH P E)(hP:P.follows .mixedOrders=true){F:Fence}(hF:Open F P)(n:Nat):Ok F P (bV P E n):=aHs hE (VU hE hP n) hF
end
end Go.Kz
end
