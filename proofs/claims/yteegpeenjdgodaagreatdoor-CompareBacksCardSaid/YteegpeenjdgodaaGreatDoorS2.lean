/- Steps of the proof. -/
import Derived.Lib.AppendZerosOnto
import Derived.Test.YteegpeenjdgodaaGreatDoorS1
import Derived.OrdersIn
set_option linter.all false
set_option maxHeartbeats 40000000
set_option maxRecDepth 100000
noncomputable section
namespace Go.Kz
section
open Go.RowKit
section
variable{P:Program}{c:Cx}{fl:Nat}
theorem BF(n:Nat):∀(k:Nat) (cs:List PD),(sG n k cs).length=k
 |0,_=>rfl
 |k+1,cs=>by simp[sG,BF n k]
theorem KU(n:Nat):∀(k:Nat) (cs:List PD),k*n<=cs.length->(sG n k cs).flatMap PD.cells=cs.take (k*n)
 |0,_,_=>by simp[sG]
 |k+1,cs,h=>by
  have h':k*n+n<=cs.length:=by rw[yBz]at h;omega
  rw[sG,yBx,KU n k (cs.drop n) Co];show cs.take n++(cs.drop n).take (k*n)=_
  rw[yBz,Nat.one_mul,Nat.add_comm (k*n) n,List.take_add]
theorem O7(n:Nat):∀(k:Nat) (cs:List PD),k*n<=cs.length->∀x∈sG n k cs,x.cells.length=n
 |0,_,_,x,hx=>by simp[sG]at hx
 |k+1,cs,h,x,hx=>by
  have h':k*n+n<=cs.length:=by rw[yBz]at h;omega
  rw[sG]at hx;rcases yBl.1 hx with rfl|hx
  .simp[PD.cells];omega
  .exact O7 n k (cs.drop n) Co x hx
theorem aIA(hs:Sr c){x:PD}{sz:Nat}{ys:Jk}(h:vA c.σ x=some (sz,ys)){vx:Value}(hx:VR c vx x):∃B cap fly,vx=.slice B ys.length cap/\ys.length<=cap/\(∀y∈ys,y.cells.length=sz)/\fly.length=ys.length*sz/\(∀v∈fly,v.oneCell'=true) /\
  (∀(j:Nat) (v:Value),fly[j]?=some v->∃ad,B=some ad/\c.w.cell? (ad.add j)=some v)/\aZ c fly (ys.flatMap PD.cells):=by
 unfold vA at h;split at h
 .rename_i tY ys0 tok;simp only[yAb,yAc]at h;obtain⟨rfl,rfl⟩:=h;obtain⟨A,cap,fly,rfl,a1,a2,a3,a4,a5,a6,a7,a8⟩:=hx.pJ;refine⟨A,cap,fly,rfl,a1,a3,a4,a5,λj v hj=>?_,by rw[a4,FM _ a3],a7⟩;exact nw
 .rename_i id ver off n tY;split at h
  .rename_i e sz' gO cs hq;split at h
   .rename_i hc;obtain⟨rfl,rfl,hle⟩:=hc;simp only[yAb,yAc]at h;obtain⟨rfl,rfl⟩:=h;obtain⟨b,cap,rfl,hp,h1,h2⟩:=hx.DB;obtain⟨_,C,q2,q3⟩:=(hp.2 e _ _ cs hq).2 rfl;obtain⟨b',C',cur,e1,e2,e3,e4,e5,e6,e7,e8⟩:=hs.row id e _ _ cs hp.1 hq;rw[q2]at e1;simp only[yBL,yAb,yBG,yBn,yCj]at e1;obtain⟨rfl,rfl⟩:=e1;have hdl:n*sz'<=(cs.drop off).length:=Co;have hlen:(((cur.toList.take cs.length).drop off).take (n*sz')).length=n*sz':=Co;refine⟨some ⟨b,off,none⟩,cap,((cur.toList.take cs.length).drop off).take (n*sz'),by rw[BF],by rw[BF];exact h1,O7 _ _ _ hdl,by rw[hlen,BF],?_,?_,?_⟩
    .intro v hv;exact e8 v (yAy (yBd (yAy hv)))
    .intro j v hj;refine⟨_,rfl,?_⟩;rw[vE];simp only[World.cell?,e2];rw[yAv]at hj;split at hj
     .rw[yBh,yAv]at hj;split at hj
      .simpa using hj
      .cases hj
     .cases hj
    .rw[KU _ _ _ hdl];exact e7.take_drop off (n*sz')
   .cases h
  .cases h
 .rename_i id off n tY;split at h
  .rename_i q hq;split at h
   .rename_i hle;simp only[yAb,yAc]at h;obtain⟨rfl,rfl⟩:=h;obtain⟨b,cap,rfl,hD,_,hr,h1,h2⟩:=hx.FI;obtain⟨b',cur,T,e1,e2,e3,e4⟩:=hs.box id q hD hq;rw[hr]at e1;simp only[yCK,yAb,yBG,yBn]at e1;subst e1;have hdl:n*tY<=(q.cells.drop off).length:=Co;have hcl:cur.toList.length=q.cells.length:=e3.1;have hlen:((cur.toList.drop off).take (n*tY)).length=n*tY:=by rw[yAt,yBa];omega
    refine⟨some ⟨b,off,none⟩,cap,(cur.toList.drop off).take (n*tY),by rw[BF],by rw[BF];exact h1,O7 _ _ _ hdl,by rw[hlen,BF],?_,?_,?_⟩
    .intro v hv;exact e4.1 v (yBd (yAy hv))
    .intro j v hj;refine⟨_,rfl,?_⟩;rw[vE];simp only[World.cell?,e2];rw[yAv]at hj;split at hj
     .exact mg
     .cases hj
    .rw[KU _ _ _ hdl];exact e3.take_drop off (n*tY)
   .cases h
  .cases h
 .cases h
theorem O8{zs:Jn}(h:∀v∈zs.toList,v.oneCell'=true)(h0:0<zs.size)(n:Nat):∀v∈(Builtin.zeroCells zs n).toList,v.oneCell'=true:=by
 intro v hv;simp only[Builtin.zeroCells,yDt,yDu,yAw]at hv;obtain⟨k,_,rfl⟩:=hv;have lZ:k%zs.size<zs.size:=yBC _ h0;apply h;simp[lZ]
theorem aIB{w:World}{t ty e:TypeId}{i:TypeInfo}{z:Value}(hu:P.underlying t=some (.slice e))(hi:P.info? e=some i)(hz:i.zero=some z)(hzs:z.cells.size=i.size)(hpos:0<i.size)(hz1:∀v∈z.cells.toList,v.oneCell'=true)
  {A B:Option Addr} {n cap m c':Nat} {flx fly:Jm} (hA:A=none->n=0/\cap=0) (hlx:flx.length=n*i.size) (hx:∀(j:Nat) (v:Value),flx[j]?=some v->∃ad,A=some ad/\w.cell? (ad.add j)=some v)
  (hly:fly.length=m*i.size) (hy:∀(j:Nat) (v:Value),fly[j]?=some v->∃ad,B=some ad/\w.cell? (ad.add j)=some v) (KV:∀v∈flx,v.oneCell'=true) (UA:∀v∈fly,v.oneCell'=true) (hm:0<m) (hcap:cap<n+m) (hmax:n+m<=maxLen) (hby:(n+m)*i.bytes<=140737488355328) :
  ∃C cur w',(Builtin.append_ #[t,t] ty #[.slice A n cap,.slice B m c']).run P w=.ok (.slice (some ⟨w.heap.size,0,none⟩) (n+m) C) w'/\w.grownBy w' none/\w'.heap[w.heap.size]?=some (.cells cur e (0,0))/\cur.size=C*i.size /\
   n+m<=C/\C<=maxLen/\(∀v∈cur.toList,v.oneCell'=true)/\∃rest,cur.toList=flx++fly++rest:=by
 have UB:0<fly.length:=by rw[hly];exact yDd hm hpos
 obtain⟨bd,rfl,_⟩:=hy 0 fly[0] (by simp[UB]);have hnews:∀(j:Nat) (u:Value),fly[j]?=some u->w.cell? (bd.add j)=some u:=λj u hj=>by
  obtain⟨ad,e',h9⟩:=hy j u hj;exact ng
 have fin:∀old,old<n+m->w.grownBy (w.drew.alloc (.cells (flx.toArray++fly.toArray++Builtin.zeroCells z.cells (grownCap w (n+m) old e-(n+m))) e)) none /\
   (w.drew.alloc (.cells (flx.toArray++fly.toArray++Builtin.zeroCells z.cells (grownCap w (n+m) old e-(n+m))) e)).heap[w.heap.size]?=some (.cells (flx.toArray++fly.toArray++Builtin.zeroCells z.cells (grownCap w (n+m) old e-(n+m))) e (0,0)) /\
   (flx.toArray++fly.toArray++Builtin.zeroCells z.cells (grownCap w (n+m) old e-(n+m))).size=grownCap w (n+m) old e*i.size/\n+m<=grownCap w (n+m) old e/\grownCap w (n+m) old e<=maxLen /\
   (∀v∈(flx.toArray++fly.toArray++Builtin.zeroCells z.cells (grownCap w (n+m) old e-(n+m))).toList,v.oneCell'=true)/\∃rest,(flx.toArray++fly.toArray++Builtin.zeroCells z.cells (grownCap w (n+m) old e-(n+m))).toList=flx++fly++rest:=by
  intro old ho;have hge:=yDv w (n+m) old e;have hcm:grownCap w (n+m) old e<=maxLen:=yDK w (n+m) old e hmax;refine⟨⟨rfl,rfl,rfl,Ce,λk hk _=>yDw w.drew _ hk⟩,yC w.drew _,?_,hge,hcm,?_,_,by simp only[yDL];rfl⟩
  .simp only[yDM,yCq,yDx,hzs,hlx,hly,<-yBz]
   congr 1
   omega
  .intro v hv;simp only[yDL,yBr]at hv;rcases hv with(hv|hv)|hv
   .exact KV v hv
   .exact UA v hv
   .exact O8 hz1 Cd _ v hv
 cases A with
 |none=>
  obtain⟨rfl,rfl⟩:=hA rfl;have KW:flx=[]:=yAf (by rw[hlx];simp);subst KW;have hr:=run_append_nil (P:=P) w t ty e i z hu hi hz bd m c' fly hly hnews Cd Gs (by have hb:=hby;simp only[yAp]at hb;omega);have:=fin 0 Cd;simp only[yAp,yAW,Array.empty_append]at this ⊢;exact⟨_,_,_,hr,this⟩
 |some ad=>
  have holds:∀(j:Nat) (u:Value),flx[j]?=some u->w.cell? (ad.add j)=some u:=λj u hj=>by
   obtain⟨KX,e',h9⟩:=hx j u hj;exact ng
  have hr:=run_append_grow (P:=P) w t ty e i z hu hi hz ad n cap flx hlx holds bd m c' fly hly hnews hcap Gs (growslice_fits hcap hby);exact⟨_,_,_,hr,fin cap hcap⟩
theorem aIC{w:World}{t ty e:TypeId}{i:TypeInfo}(hu:P.underlying t=some (.slice e))(hi:P.info? e=some i){b off n cap m c':Nat}{B:Option Addr}{fly:Jm}
  (hly:fly.length=m*i.size) (hy:∀(j:Nat) (v:Value),fly[j]?=some v->∃ad,B=some ad/\w.cell? (ad.add j)=some v) (hroom:n+m<=cap) :
  (Builtin.append_ #[t,t] ty #[.slice (some ⟨b,off,none⟩) n cap,.slice B m c']).run P w=Result.andThen ((storeCells ⟨b,off+n*i.size,none⟩ fly).run P w) (λ_ w'=>.ok (.slice (some ⟨b,off,none⟩) (n+m) cap) w'):=by
 have hf:(Builtin.firstCells i.size m (.slice B m c')).run P w=.ok fly.toArray w:=by
  cases B with
  |none=>
   have:fly=[]:=by
    cases fly with
    |nil=>rfl
    |cons x xs=>obtain⟨_,e',_⟩:=hy 0 x rfl;cases e'
   exact uc
  |some bd=>
   simp only[Builtin.firstCells];exact DC hly λj v hj=>by
    obtain⟨ad,e',h9⟩:=hy j v hj;exact ng
 simp[Builtin.append_,yAM hu,sizeOf,typeInfo,hi,Builtin.lenOf,hroom,hf,vE]
structure aID (P:Program) (w:World) (t u ty e:TypeId) (i:TypeInfo) (vx:Value) (m:Nat) (fly:List Value):Prop where
 none_:m=0->∀(A:Option Addr) (n cap:Nat),n<=cap->(Builtin.append_ #[t,u] ty #[.slice A n cap,vx]).run P w=.ok (.slice A n cap) w
 grow:0<m->∀(A:Option Addr) (n cap:Nat) (flx:List Value),(A=none->n=0/\cap=0)->flx.length=n*i.size->(∀(j:Nat) (v:Value),flx[j]?=some v->∃ad,A=some ad/\w.cell? (ad.add j)=some v)->(∀v∈flx,v.oneCell'=true) ->
  cap<n+m->n+m<=maxLen->(n+m)*i.bytes<=140737488355328 ->
  ∃C cur w',(Builtin.append_ #[t,u] ty #[.slice A n cap,vx]).run P w=.ok (.slice (some ⟨w.heap.size,0,none⟩) (n+m) C) w'/\w.grownBy w' none/\w'.heap[w.heap.size]?=some (.cells cur e (0,0))/\cur.size=C*i.size /\
   n+m<=C/\C<=maxLen/\(∀v∈cur.toList,v.oneCell'=true)/\∃rest,cur.toList=flx++fly++rest
 room:∀(b off n cap:Nat),n+m<=cap->(Builtin.append_ #[t,u] ty #[.slice (some ⟨b,off,none⟩) n cap,vx]).run P w=Result.andThen ((storeCells ⟨b,off+n*i.size,none⟩ fly).run P w) (λ_ w'=>.ok (.slice (some ⟨b,off,none⟩) (n+m) cap) w')
theorem aIE(hs:Sr c){fn:Nat}{t u ty:TypeId}{s x p:PD}{σ':Jj}(h:dY P fn fl c.σ t s x=some (p,σ')){vs vx:Value}(hvs:VR c vs s)
  (hsrc:∀e i z sz' ys,P.underlying t=some (.slice e)->vA c.σ x=some (sz',ys)->P.info? e=some i->i.zero=some z->z.cells.size=i.size->0<i.size->(∀v∈z.cells.toList,v.oneCell'=true)->(ys.length=0\/sz'=i.size) ->
   ∃fly:List Value,fly.length=ys.length*i.size/\(∀v∈fly,v.oneCell'=true)/\aZ c fly (ys.flatMap PD.cells)/\aID P c.w t u ty e i vx ys.length fly) :
  ∃v w',(Builtin.append_ #[t,u] ty #[vs,vx]).run P c.w=.ok v w'/\Leaves fl c p σ' v w':=by
 unfold dY at h;split at h
 rotate_left
 .cases h
 split at h
 rotate_left
 .cases h
 rename_i e sz' ys hu hw;split at h
 rotate_left
 .cases h
 rename_i i hi;split at h
 rotate_left
 .cases h
 rename_i z hz;split at h
 rotate_left
 .cases h
 rename_i hc;obtain⟨HR,hpos,hzs,hz1⟩:=hc;have hz1:∀v∈z.cells.toList,v.oneCell'=true:=λv hv=>yAn.1 hz1 v hv
 obtain⟨fly,hly,b4,b6,hS⟩:=hsrc e i z sz' ys hu hw hi hz hzs hpos hz1 HR;split at h
 ·
  rename_i sz xs tok;split at h
  rotate_left
  .cases h
  rename_i hc;obtain⟨hsz,hmax,hby,htok⟩:=hc;obtain⟨A,cap,flx,rfl,a1,a2,a3,a4,a5,a6,a7,a8⟩:=hvs.pJ;have hcells:∀(j:Nat) (v:Value),flx[j]?=some v->∃ad,A=some ad/\c.w.cell? (ad.add j)=some v:=λj v hj=>by
   exact nw
  split at h
  .rename_i h0;simp only[yAb,yAc]at h;obtain⟨rfl,rfl⟩:=h;exact⟨.slice A xs.length cap,c.w,hS.none_ h0 A xs.length cap a1,c,rfl,rfl,hs,.refl _ _,hvs,λ_ h=>.inl h⟩
  .rename_i h0;simp only[yAb,yAc]at h;obtain⟨rfl,rfl⟩:=h;have hcapn:xs.length=cap:=by
    cases tok<;>first|(simp[Tok.fresh]at htok;done)|(simp only[sH]at a8;omega)
   have hlx:flx.length=xs.length*i.size:=by
    exact xm
   have hA:A=none->xs.length=0/\cap=0:=by
    rintro rfl
    have hx0:xs.length=0:=by
     rcases yEc xs.length with h0|h0
     .exact h0
     .have:0<flx.length:=by rw[hlx];exact yDd h0 hpos
      exact xh
    exact⟨hx0,Cd⟩
   obtain⟨C,cur,w',r,g1,g2,g3,g4,g5,g6,rest,g7⟩:=hS.grow (yDy h0) A xs.length cap flx hA hlx hcells a5 Cd hmax hby;have hcl:((xs++ys).flatMap PD.cells).length=(flx++fly).length:=by
    rw[yEd,yAa,yAa,FM xs a3,b6.1,a4]
   have hvr:aZ c (cur.toList.take ((xs++ys).flatMap PD.cells).length) ((xs++ys).flatMap PD.cells):=by
    rw[hcl,g7,yCr,yEd];exact aZ.append ⟨by rw[FM xs a3,a4],a7⟩ b6
   have hcs:((xs++ys).flatMap PD.cells).length<=cur.size:=by
    rw[hcl];have:=yAL List.length g7;simp at this ⊢;omega
   have hbk:∀b,bI (.slice (some ⟨c.w.heap.size,0,none⟩) 0 C)=some b->c.w.heap.size<=b:=λb hb=>Gy
   refine⟨_,w',r,c.push w' (.slice (some ⟨c.w.heap.size,0,none⟩) 0 C) (.row e i.size 0 ((xs++ys).flatMap PD.cells)),rfl,rfl,?_,Nx.push hs g1 hbk,?_,?_⟩
   .refine Sr.push hs g1 (λb hb=>⟨hbk b hb,?_⟩) ⟨_,C,cur,rfl,g2,g3,g5,hpos,hcs,hvr,g6⟩;simp[bI]at hb;subst hb;exact iF g2
   .refine .aP _ _ _ _ _ _ _ ⟨.inr rfl,λe' tY v' cs hq=>?_⟩ g4 g5;rw[iU.1]at hq;simp only[yAb,aA.row.injEq]at hq;obtain⟨rfl,rfl,rfl,rfl⟩:=hq;exact⟨yAk _,λ_=>⟨rfl,C,iU.2.1,Ce⟩⟩
   .exact dm
 ·
  rename_i id ver off n sz;split at h
  rotate_left
  .cases h
  rename_i hc;obtain⟨hfl,rfl,hmax,hby⟩:=hc;split at h
  rotate_left
  .cases h
  rename_i e' tY gO cs hq;split at h
  rotate_left
  .cases h
  rename_i hc;obtain⟨rfl,rfl,rfl⟩:=hc;obtain⟨b,cap,rfl,hp,h1,h2⟩:=hvs.DB;obtain⟨_,C,hr,hCo⟩:=(hp.2 _ _ _ cs hq).2 rfl;have hbase:=hs.row id _ _ _ cs hp.1 hq;obtain⟨b',C',cur,e1,e2,e3,e4,e5,e6,e7,e8⟩:=hbase;rw[hr]at e1;simp only[yBL,yAb,yBG,yBn,yCj]at e1;obtain⟨rfl,rfl⟩:=e1;split at h
  ·
   rename_i hin;simp only[yAb,yAc]at h;obtain⟨rfl,rfl⟩:=h;have hroom:n+ys.length<=cap:=by
    have:(n+ys.length)*i.size<=cap*i.size:=Cd;exact Nat.le_of_mul_le_mul_right this hpos
   obtain⟨w',hst,hs',hn'⟩:=aBP (P:=P) (fl:=fl) hs hp.1 hq hr b6 b4 (off:=off+n*i.size) (by rw[<-b6.1,hly];rw[yBz]at hin;omega) hfl;refine⟨.slice (some ⟨b,off,none⟩) (n+ys.length) cap,w',?_,_,rfl,rfl,hs',hn',?_,λi hi=>.inl hi⟩
   .rw[hS.room b off n cap hroom,hst];rfl
   .exact .aP _ _ _ _ _ _ _ (hp.oW hn'.UC) hroom h2
  .split at h
   rotate_left
   .cases h
   rename_i hc;obtain⟨rfl,hn⟩:=hc;simp only[yAb,yAc]at h;obtain⟨rfl,rfl⟩:=h;have hcapC:cap=C:=yEe hpos Cd;subst hcapC;have hyp:ys.length≠0:=λh0=>by
    rename_i hin;rw[h0,yBk,yAp]at hin;omega
   by_cases hroom:n+ys.length<=cap
   .have hfit:cs.length+fly.length<=cur.size:=by
     rw[e3,hly,<-hn,<-yBz];exact yBH _ hroom
    have hst:=yDe (P:=P) b (0+n*i.size) _ fly 0 cur c.w e2 Cd b4;simp only[yBk,yAp]at hst;have hrun:=hS.room b 0 n cap hroom;rw[yAp,hst]at hrun;have hk:∀k,k<c.w.heap.size->bI (c.ρ id)≠some k->(c.w.setRow b (List.take (n*i.size) cur.toList++fly++List.drop (n*i.size+fly.length) cur.toList).toArray).heap[k]?=c.w.heap[k]?:=
     λk _ hk=>yBM _ _ _ _ (λh=>hk (by rw[hr,h];rfl))
    have hcr:(List.take (n*i.size) cur.toList++fly++List.drop (n*i.size+fly.length) cur.toList).length=cur.size:=Co;have hall:∃b0 C0 mQ,c.ρ id=.slice (some ⟨b0,0,none⟩) 0 C0/\(c.w.setRow b (List.take (n*i.size) cur.toList++fly++List.drop (n*i.size+fly.length) cur.toList).toArray).heap[b0]?=some (.cells mQ e' (0,0))/\mQ.size=C0*i.size/\C0<=maxLen/\0<i.size /\
      (cs++ys.flatMap PD.cells).length<=mQ.size/\aZ c (mQ.toList.take (cs++ys.flatMap PD.cells).length) (cs++ys.flatMap PD.cells)/\∀v∈mQ.toList,v.oneCell'=true:=by
     refine⟨b,cap,_,hr,yBV _ _ cur _ e' (0,0) e2,by simpa using hcr.trans e3,e4,hpos,?_,?_,O9 e8 b4 _ _⟩
     .rw[yAa,<-b6.1,yCq,hcr];exact hfit
     .show aZ c (List.take _ (List.take (n*i.size) cur.toList++fly++List.drop (n*i.size+fly.length) cur.toList)) _
      rw[show(cs++ys.flatMap PD.cells).length=(List.take (n*i.size) cur.toList++fly).length by
       rw[yAa,yAa,b6.1,yAt,hn];have:cs.length<=cur.toList.length:=by simpa using e6
       omega]
      rw[yCr,hn];exact e7.append b6
    refine⟨.slice (some ⟨b,0,none⟩) (n+ys.length) cap,_,hrun,c.put _ id (c.ρ id) (.row e' i.size (gO+1) (cs++ys.flatMap PD.cells)),rfl,rfl,Sr.putRow hs hp.1 hq (yCs _) (λh=>rfl) ⟨rfl,rfl,rfl,Ce⟩ hk (.inl rfl) hall,
     Nx.putRow hs hp.1 hq hfl (yCs _) (λh=>rfl) ⟨rfl,rfl,rfl,Ce⟩ hk (.inl rfl),?_,λi hi=>.inl hi⟩
    refine .aP _ _ _ _ _ _ _ ⟨hp.1,λe0 FG v1 DD hq1=>?_⟩ hroom h2;exact jz
   .have hcut:(cur.toList.take cs.length).length=n*i.size:=by
     rw[yAt,<-hn];have:n*i.size<=cur.toList.length:=by rw[hn];simpa using e6
     omega
    obtain⟨C2,KY,w',r,g1,g2,g3,g4,g5,g6,rest,g7⟩:=hS.grow (yDy hyp) (some ⟨b,0,none⟩) n cap (cur.toList.take cs.length) (λh=>Ck) hcut (λj v hj=>by
      refine⟨_,rfl,?_⟩;rw[vE];simp only[World.cell?,e2];rw[yAv]at hj;split at hj
      .simpa using hj
      .cases hj) (λv hv=>e8 v (yAy hv)) Cd hmax hby
    have hbk:∀b0,bI (.slice (some ⟨c.w.heap.size,0,none⟩) 0 C2)=some b0->c.w.heap.size<=b0:=λb hb=>Gy
    have hlen:(cs++ys.flatMap PD.cells).length=(cur.toList.take cs.length++fly).length:=by rw[yAa,yAa,<-b6.1,hcut,hn]
    have hall:∃b0 C0 mQ,Value.slice (some ⟨c.w.heap.size,0,none⟩) 0 C2=.slice (some ⟨b0,0,none⟩) 0 C0/\w'.heap[b0]?=some (.cells mQ e' (0,0))/\mQ.size=C0*i.size/\C0<=maxLen/\0<i.size /\
      (cs++ys.flatMap PD.cells).length<=mQ.size/\aZ c (mQ.toList.take (cs++ys.flatMap PD.cells).length) (cs++ys.flatMap PD.cells)/\∀v∈mQ.toList,v.oneCell'=true:=by
     refine⟨c.w.heap.size,C2,KY,rfl,g2,g3,g5,hpos,?_,?_,g6⟩
     .rw[hlen];have:=yAL List.length g7;exact tc
     .rw[hlen,g7,yCr];exact e7.append b6
    have hk:∀k,k<c.w.heap.size->bI (c.ρ id)≠some k->w'.heap[k]?=c.w.heap[k]?:=λk hk _=>g1.block k hk Ce
    have h0:w'.os=c.w.os/\w'.tape=c.w.tape/\w'.output=c.w.output/\c.w.heap.size<=w'.heap.size:=⟨g1.os,g1.tape,g1.output,g1.size⟩;refine⟨_,w',r,c.put w' id (.slice (some ⟨c.w.heap.size,0,none⟩) 0 C2) (.row e' i.size (gO+1) (cs++ys.flatMap PD.cells)),rfl,rfl,Sr.putRow hs hp.1 hq (yCs _) (λh=>Cd) h0 hk (.inr hbk) hall,
     Nx.putRow hs hp.1 hq hfl (yCs _) (λh=>Cd) h0 hk (.inr hbk),?_,λi hi=>.inl hi⟩
    refine .aP _ _ _ _ _ _ _ ⟨hp.1,λe0 FG v1 DD hq1=>?_⟩ g4 g5;exact lq
 .cases h
theorem aIu(hs:Sr c){fn:Nat}{t:TypeId}{s x p:PD}{σ':Jj}(h:dY P fn fl c.σ t s x=some (p,σ')){vs vx:Value}(hvs:VR c vs s)(hvx:VR c vx x)(ty:TypeId) :
  ∃v w',(Builtin.append_ #[t,t] ty #[vs,vx]).run P c.w=.ok v w'/\Leaves fl c p σ' v w':=by
 refine aIE hs h hvs λe i z sz' ys hu hw hi hz hzs hpos hz1 HR=>?_
 obtain⟨B,cx,fly,rfl,b1,b2,b3,b4,b5,b6⟩:=aIA hs hw hvx;have hly:fly.length=ys.length*i.size:=by
  rcases HR with h0|h0
  .rw[b3,h0];simp
  .rw[b3,h0]
 refine⟨fly,hly,b4,b6,λh0 A n cap hn=>?_,λhm A n cap flx hA hlx hx KV hcap hmax hby=>aIB hu hi hz hzs hpos hz1 hA hlx hx hly b5 KV b4 hm hcap hmax hby,λb off n cap hroom=>aIC hu hi hly b5 hroom⟩;have hfy:fly=[]:=yAf (by rw[hly,h0];simp);subst hfy;have hfy:(Builtin.firstCells i.size 0 (.slice B 0 cx)).run P c.w=.ok #[] c.w:=by
  cases B<;>simp[Builtin.firstCells,loadCells,loadCellsFrom]
 rw[h0];exact tw
theorem aIx(hs:Sr c){n:Nat}{t u:TypeId}{s p:PD}{m:Int}{σ':Jj}(hst:P.underlying u=some (.int .i64))(h:HG P n c.σ t s m=some (p,σ')){vs:Value}(hvs:VR c vs s)(ty:TypeId) :
  ∃v w',(Builtin.append_ #[t,u] ty #[vs,.int .i64 m]).run P c.w=.ok v w'/\Leaves fl c p σ' v w':=by
 unfold HG at h;cases h
theorem aIp(hs:Sr c){t:TypeId}{s:PD}{σ':Jj}(h:UD P fl c.σ t s=some σ'){vs:Value}(hvs:VR c vs s)(ty:TypeId) :
  ∃v w',(Builtin.clear_ #[t] ty #[vs]).run P c.w=.ok v w'/\Leaves fl c (.aH []) σ' v w':=by
 unfold UD at h;cases h
theorem aIq(hs:Sr c){dt st:TypeId}{d x p:PD}{σ':Jj}(h:UE P fl c.σ dt st d x=some (p,σ')){vd vx:Value}(hd:VR c vd d)(hx:VR c vx x)(ty:TypeId) :
  ∃v w',(Builtin.copy_ #[dt,st] ty #[vd,vx]).run P c.w=.ok v w'/\Leaves fl c p σ' v w':=by
 unfold UE at h;cases h
theorem bytes_beq(a b:List UInt8):(ByteArray.mk a.toArray==ByteArray.mk b.toArray)=(a==b):=by
 have h:(ByteArray.mk a.toArray==ByteArray.mk b.toArray)=(a.toArray==b.toArray):=rfl;rw[h];simp
def KZ(d:TypeDesc)(k:PD):Prop:=(d=.string/\∃s,k=.str s)\/∃k0 n,d=.int k0/\k=.int k0 n
theorem aBQ{kt:TypeId}{k:PD}(h:HS P kt k=true):∃d,P.underlying kt=some d/\KZ d k:=by
 unfold HS at h;split at h
 .rename_i s hu;exact⟨_,hu,.inl ⟨rfl,_,rfl⟩⟩
 .rename_i k0 k1 n hu;simp only[yCf]at h;subst h;exact⟨_,hu,.inr ⟨_,_,rfl,rfl⟩⟩
 .cases h
theorem aBR{d:TypeDesc}{k q:PD}(hd:KZ d k){vk vq:Value}(hk:VR c vk k)(hq:VR c vq q){b:Bool}(h:FN k q=some b):Instr.sameNow d vk vq=some b/\(b=true->vk=vq):=by
 rcases hd with⟨rfl,s,rfl⟩ | ⟨k0,n,rfl,rfl⟩
 .rw[hk.tX];cases q<;>simp only[FN,reduceCtorEq]at h
  rw[hq.tX];simp only[yAb]at h;subst h;refine⟨by simp only[Instr.sameNow,bytes_beq],λh=>?_⟩;rw[eq_of_beq h]
 .rw[hk.qV];cases q<;>simp only[FN,reduceCtorEq]at h
  rw[hq.qV];split at h
  .rename_i hkk;subst hkk;simp only[yAb]at h;subst h;refine⟨by simp[Instr.sameNow],λh=>?_⟩;rw[eq_of_beq h]
  .cases h
theorem aZ.tail{v:Value}{vs:Jm}{d:PD}{ds:Jk}(h:aZ c (v::vs) (d::ds)):aZ c vs ds:=⟨by have:=h.1;simpa using this,λi u x a b=>h.2 (i+1) u x Fh Fi⟩
theorem K0{d:TypeDesc}{k:PD}(hd:KZ d k){vk:Value}(hk:VR c vk k):∀(ents:List MapEntry) (ms:List (PD×PD)) (i:Nat) (r:Option (Nat×PD)),aZ c (ents.map MapEntry.key) (ms.map Prod.fst)->aZ c (ents.map MapEntry.val) (ms.map Prod.snd)->xQ k ms i=some r ->
  match r with
  |some (j,v)=>∃en,i<=j/\ents[j-i]?=some en/\VR c en.val v/\en.key=vk/\Instr.findNow d vk ents i=some (some (j,en.val))
  |none=>Instr.findNow d vk ents i=some none
 | [],[],i,r,_,_,h=>by
   simp only[xQ,yAb]at h;subst h;rfl
 | [],_::_,_,_,h,_,_=>by have:=h.1;simp at this
 |_::_,[],_,_,h,_,_=>by have:=h.1;simp at this
 |en::ents,m::ms,i,r,h1,h2,h=>by
  have hk0:VR c en.key m.1:=h1.2 0 _ _ rfl rfl;have jN:VR c en.val m.2:=h2.2 0 _ _ rfl rfl;unfold xQ at h;split at h
  .rename_i he;simp only[yAb]at h;subst h;obtain⟨q1,q2⟩:=aBR hd hk hk0 he;refine⟨en,yAk _,Ce,jN,(q2 rfl).symm,?_⟩;simp[Instr.findNow,q1]
  .rename_i he;obtain⟨q1,_⟩:=aBR hd hk hk0 he;have ih:=K0 hd hk ents ms (i+1) r h1.tail h2.tail h;cases r with
   |none=>
    simp only at ih ⊢;simp[Instr.findNow,q1,ih]
   |some jv=>
    obtain⟨j,v⟩:=jv;simp only at ih ⊢;obtain⟨en',g1,g2,g3,g4,g5⟩:=ih;refine⟨en',Cd,?_,g3,g4,?_⟩
    .rw[show j-i=(j-(i+1))+1 by omega];simpa using g2
    .simp[Instr.findNow,q1,g5]
  .cases h
theorem K1{w:World}{kt:TypeId}{d:TypeDesc}{k:PD}(hu:P.underlying kt=some d)(hd:KZ d k){vk:Value}(hk:VR c vk k)(e:Bool):(Instr.checkKey e 10000 kt vk).run P w=.ok () w:=by
 rcases hd with⟨rfl,s,rfl⟩ | ⟨k0,n,rfl,rfl⟩
 .rw[hk.tX];exact uj
 .rw[hk.qV];exact uj
theorem K2{w:World}{kt:TypeId}{d:TypeDesc}{vk:Value}{l:List MapEntry}{a:Option (Nat×Value)}(hd:P.underlying kt=some d)(h:Instr.findNow d vk l 0=some a):(Instr.findKey kt vk l).run P w=.ok a w:=by
 simp[Instr.findKey,yAM hd,Result.andThen,h]
theorem PA{w:World}{r:Nat}{es:Array MapEntry}{clock:Nat}(hb:w.heap[r]?=some (.map es clock)):(getObj r).run P w=.ok (.map es clock) w:=by simp[getObj,Sem.run,hb]
theorem aBS{w:World}{r:Nat}{es:Array MapEntry}{clock:Nat}(o:Obj)(hb:w.heap[r]?=some (.map es clock)):(setObj r o).run P w=.ok () (w.putObj r o):=by simp[setObj,Sem.run,hb,World.putObj]
theorem aIF{d:TypeDesc}{k:PD}(hd:KZ d k){vk:Value}(hk:VR c vk k)(w:World):(Instr.keyThatStays vk vk).run P w=.ok vk w:=by
 have:Instr.sameBits 10000 vk vk=true:=by
  rcases hd with⟨rfl,s,rfl⟩ | ⟨k0,n,rfl,rfl⟩
  .rw[hk.tX];simp only[Instr.sameBits,bytes_beq];simp
  .rw[hk.qV];simp[Instr.sameBits]
 simp[Instr.keyThatStays,this]
theorem aBT(hs:Sr c){id:Nat}{ms:List (PD×PD)}(hq:c.σ[id]?=some (.map ms)){vx:Value}(hx:VR c vx (.gG id)):∃b ents clock,vx=.map (some b)/\c.D id/\c.ρ id=.map (some b)/\c.w.heap[b]?=some (.map ents clock)/\aZ c (ents.toList.map MapEntry.key) (ms.map Prod.fst)/\aZ c (ents.toList.map MapEntry.val) (ms.map Prod.snd):=by
 obtain⟨b,rfl,hd,_,hr⟩:=hx.aIG;obtain⟨b',ents,clock,e1,e2,e3,e4⟩:=hs.map id ms hd hq;rw[hr]at e1;simp only[Value.map.injEq,yAb]at e1;subst e1;exact⟨b,ents,clock,rfl,hd,hr,e2,e3,e4⟩
theorem aIs(hs:Sr c){t:TypeId}{x k p:PD}{ok:Bool}(h:HT P c.σ t x k ok=some p){vx vk:Value}(hx:VR c vx x)(hk:VR c vk k):∃v,(Instr.lookup t vx vk ok).run P c.w=.ok v c.w/\VR c v p:=by
 have two:∀ {v:Value} {q:PD} (b:Bool),VR c v q->VR c (if ok then .tuple #[v,.bool b]else v) (if ok then .aH [q,.bool b]else q):=fun {v q} b hv=>by
  cases ok
  .exact hv
  .exact .aH [v,.bool b] [q,.bool b] rfl (λi u d h1 h2=>by
    match i with
    |0=>simp at h1 h2;subst h1;subst h2;exact hv
    |1=>simp at h1 h2;subst h1;subst h2;exact .bool b
    |i+2=>simp at h1)
 unfold HT at h;split at h
 rotate_left
 .cases h
 rename_i kt e hu;split at h
 rotate_left
 .cases h
 rename_i hki;obtain⟨d,hkt,hd⟩:=aBQ hki;split at h
 .rename_i id;split at h
  rotate_left
  .cases h
  rename_i ms hq;obtain⟨b,ents,clock,rfl,_,_,e2,e3,e4⟩:=aBT hs hq hx;split at h
  .rename_i j v hf;simp only[yAb]at h;subst h;obtain⟨en,_,_,g3,_,g5⟩:=K0 hd hk _ _ 0 _ e3 e4 hf;refine⟨_,?_,two true g3⟩;simp[Instr.lookup,yAM hu,PA e2,K1 hkt hd hk,K2 hkt g5]
  .rename_i hf;split at h
   .rename_i z hz;simp only[yAb]at h;subst h;obtain⟨zv,i,hi,hzv,hzr⟩:=FK (c:=c) hz;have g5:=K0 hd hk _ _ 0 _ e3 e4 hf;have K3:(zeroValue e).run P c.w=.ok zv c.w:=Gt;refine⟨_,?_,two false hzr⟩;simp[Instr.lookup,yAM hu,PA e2,K1 hkt hd hk,K2 hkt g5,K3]
   .cases h
  .cases h
 .split at h
  .rename_i z hz;simp only[yAb]at h;subst h;have hvx:vx=.map none:=by cases hx;rfl
   subst hvx;obtain⟨zv,i,hi,hzv,hzr⟩:=FK (c:=c) hz;have K3:(zeroValue e).run P c.w=.ok zv c.w:=Gt;have g5:Instr.findNow d vk [] 0=some none:=rfl;refine⟨_,?_,two false hzr⟩;simp[Instr.lookup,yAM hu,K1 hkt hd hk,K2 hkt g5,K3]
  .cases h
 .cases h
theorem aZ.set{vs:Jm}{ds:Jk}(h:aZ c vs ds){v:Value}{p:PD}(hv:VR c v p)(j:Nat):aZ c (vs.set j v) (ds.set j p):=by
 refine⟨by simp[h.1],λi u d h1 h2=>?_⟩;rw[yCZ]at h1 h2;split at h1
 .rename_i e;rw[yAJ e]at h2;split at h1
  .split at h2
   .simp only[yAb]at h1 h2;subst h1;subst h2;exact hv
   .cases h2
  .cases h1
 .rename_i e;rw[yAI e]at h2;exact h.2 i u d h1 h2
theorem aIt(hs:Sr c){t:TypeId}{x k v:PD}{σ':Jj}(h:HU P fl c.σ t x k v=some σ'){vx vk vv:Value}(hx:VR c vx x)(hk:VR c vk k)(hv:VR c vv v) :
  ∃w',(Instr.mapUpdate t vx vk vv).run P c.w=.ok () w'/\Leaves fl c (.aH []) σ' undef w':=by
 unfold HU at h;split at h
 rotate_left
 .cases h
 rename_i kt e hu;split at h
 rotate_left
 .cases h
 rename_i hki;obtain⟨d,hkt,hd⟩:=aBQ hki;split at h
 rotate_left
 .cases h
 rename_i id;split at h
 rotate_left
 .cases h
 rename_i hfl;split at h
 rotate_left
 .cases h
 rename_i ms hq;obtain⟨b,ents,clock,rfl,hD,hr,e2,e3,e4⟩:=aBT hs hq hx;have hb:bI (c.ρ id)=some b:=Ej;split at h
 .rename_i j v0 hf;simp only[yAb]at h;subst h;obtain⟨en,_,g2,g3,g4,g5⟩:=K0 hd hk _ _ 0 _ e3 e4 hf;simp only[yDq]at g2;subst g4;have g2':ents[j]?=some en:=by simpa using g2
  have hst:(Instr.mapUpdate t (.map (some b)) en.key vv).run P c.w=.ok () (c.w.putObj b (.map (ents.modify j λe=>{ e with key:=en.key,val:=vv }) clock)):=by
   simp[Instr.mapUpdate,yAM hu,PA e2,K1 hkt hd hk,K2 hkt g5,g2',aIF hd hk,aBS _ e2]
  have hkeys:((ents.modify j λe=>{ e with key:=en.key,val:=vv }).toList.map MapEntry.key)=(ents.toList.map MapEntry.key).set j en.key:=by
   exact gj
  have hvals:((ents.modify j λe=>{ e with key:=en.key,val:=vv }).toList.map MapEntry.val)=(ents.toList.map MapEntry.val).set j vv:=by
   exact gj
  refine⟨_,hst,_,rfl,rfl,Sr.wP (o':=.map (ms.set j (k,v))) hs hD hq trivial trivial hb e2 Ce ⟨⟨_,_,rfl,?_,?_⟩,hr⟩,Nx.wP hs hD hq trivial trivial hb hfl e2 Ce,K4 _,λi hi=>.inl hi⟩
  .rw[hkeys,yCS];exact e3.set hk j
  .rw[hvals,yCS];exact e4.set hv j
 .rename_i hf;simp only[yAb]at h;subst h;have g5:=K0 hd hk _ _ 0 _ e3 e4 hf;have hst:(Instr.mapUpdate t (.map (some b)) vk vv).run P c.w=.ok () (c.w.putObj b (.map (ents.push { key:=vk,val:=vv,born:=clock }) (clock+1))):=by
   simp[Instr.mapUpdate,yAM hu,PA e2,K1 hkt hd hk,K2 hkt g5,aBS _ e2]
  have one:∀ {v:Value} {p:PD},VR c v p->aZ c [v] [p]:=λh=>⟨rfl,λi u d h1 h2=>by
   match i with
   |0=>simp at h1 h2;subst h1;subst h2;exact h
   |i+1=>simp at h1⟩
  refine⟨_,hst,_,rfl,rfl,Sr.wP (o':=.map (ms++[(k,v)])) hs hD hq trivial trivial hb e2 Ce ⟨⟨_,_,rfl,?_,?_⟩,hr⟩,Nx.wP hs hD hq trivial trivial hb hfl e2 Ce,K4 _,λi hi=>.inl hi⟩
  .simp only[Array.toList_push,yAH];exact e3.append (one hk)
  .simp only[Array.toList_push,yAH];exact e4.append (one hv)
 .cases h
theorem aIr(hs:Sr c)(t:TypeId):∃v w',(Instr.makeMap t none).run P c.w=.ok v w'/\Leaves fl c (.gG c.σ.length) (c.σ++[.map []]) v w':=by
 have hbk:∀b,bI (.map (some c.w.heap.size))=some b->c.w.heap.size<=b/\b<(c.w.alloc (.map #[] 0)).heap.size:=λb hb=>by
  simp[bI]at hb;subst hb;simp
 refine⟨.map (some c.w.heap.size),c.w.alloc (.map #[] 0),rfl,c.push (c.w.alloc (.map #[] 0)) (.map (some c.w.heap.size)) (.map []),rfl,rfl,?_,Nx.push hs (zK _ _) (λb hb=>(hbk b hb).1),?_,?_⟩
 .exact Sr.push hs (zK _ _) hbk ⟨_,#[],0,rfl,yC _ _,⟨rfl,Ce⟩,⟨rfl,Ce⟩⟩
 .exact .gG _ _ (.inr rfl) (by rw[iU.1];trivial) iU.2.1
 .exact dm
end
end
section
open Go.RowKit
section
variable{P:Program}{c:Cx}{fl:Nat}
def aBO(P:Program)(o:Oper)(a:Act)(w:World)(v:Value)(w':World):Prop:=
 (execOp a.eval o).run P w=.ok (.value v) w'\/((execOp a.eval o).run P w=.ok .skip w'/\v=undef)
theorem aIi(hs:Sr c)(hX:Xw fl c){a:Act}{fr:Jk}(hf:FR c a fr){o:Oper}{p:PD}{σ':Jj}(h:dK P fl fr c.σ o.op=some (p,σ')) :
  ∃v w',aBO P o a c.w v w'/\Leaves fl c p σ' v w':=by
 obtain⟨dst,op,ty,pos,after,guard⟩:=o;simp only at h;unfold dK at h;split at h
 .rename_i t x;split at h
  .rename_i pa h1;split at h
   .rename_i q hq;simp only[yAb,yAc]at h;obtain⟨rfl,rfl⟩:=h;obtain⟨v,r,hv⟩:=aBp hs hq (eW hf h1);exact ki
   .exact ak
  .exact ak
 .rename_i t x y;split at h
  .rename_i pa pb h1 h2;split at h
   .rename_i s' hs';simp only[yAb,yAc]at h;obtain⟨rfl,rfl⟩:=h;obtain⟨w',r,hl⟩:=aIj hs hs' (eW hf h1) (eW hf h2);exact⟨undef,w',.inr ⟨Ih,rfl⟩,hl⟩
   .exact ak
  .exact ak
 .rename_i t;split at h
  .rename_i q hq;split at h
   .rename_i hpl;simp only[yAb,yAc]at h;obtain⟨rfl,rfl⟩:=h;obtain⟨zv,i,hi,hzv,hzr⟩:=FK (c:=c) hq;obtain⟨r,hl⟩:=T2 (P:=P) (fl:=fl) hs (OY hq hi hzv t) (aZ.zM hzr.cells hpl) t (λt' ds e=>OZ hzr e);refine⟨_,_,.inl ?_,hl⟩;simp[execOp,Instr.alloc,zeroValue,typeInfo,hi,hzv,r]
   .exact ak
  .exact ak
 .rename_i t x;split at h
  .rename_i q hq;split at h
   .rename_i hpl;simp only[yAb,yAc]at h;obtain⟨rfl,rfl⟩:=h;obtain⟨r,hl⟩:=T2 (P:=P) (fl:=fl) hs (eW hf hq).cells (aZ.zM (eW hf hq).cells hpl) t (λt' ds e=>(by have:=eW hf hq;rw[e]at this;exact this.aIk.elim));refine⟨_,_,.inl ?_,hl⟩;simp[execOp,Instr.box,r]
   .exact ak
  .exact ak
 .rename_i t len parts;split at h
  .rename_i ps h1;split at h
   .rename_i q hq;simp only[yAb,yAc]at h;obtain⟨rfl,rfl⟩:=h;obtain⟨a1,a2⟩:=O6 hf h1;obtain⟨v,w',r,hl⟩:=aIl (fl:=fl) hs (vparts:=parts.toList.map λq=>(q.1,a.eval q.2)) hq (by simpa using a1) (λi jv jp h3 h4=>by
     rw[yAo]at h4;cases hx:ps[i]? with
     |none=>rw[hx]at h4;simp at h4
     |some x=>
      rw[hx]at h4;simp only[yAC,yAb]at h4;subst h4;exact⟨(a2 i jv x h3 hx).1,(a2 i jv x h3 hx).2.strip⟩)
    refine⟨v,w',.inl ?_,hl⟩;have e:(Array.map (λx=>match x with|(i,x)=>(i,a.eval x)) parts)=(parts.toList.map λq=>(q.1,a.eval q.2)).toArray:=Ep;simp only[execOp,yBb];rw[e,r];simp
   .exact ak
  .exact ak
 .rename_i s d x;split at h
  .split at h
   .rename_i q hq;split at h
    .rename_i r hr;simp only[yAb,yAc]at h;obtain⟨rfl,rfl⟩:=h;obtain⟨v,w',r,hl⟩:=aIm (fl:=fl) hs hr (eW hf hq);exact⟨v,w',.inl Ih,hl⟩
    .split at h
     .rename_i r hr;simp only[yAb,yAc]at h;obtain⟨rfl,rfl⟩:=h;obtain⟨v,r,hv⟩:=aIn hs hr (eW hf hq);exact ki
     .exact ak
   .exact ak
  .exact ak
 .rename_i t l k;split at h
  .rename_i e l' k' hu h1 h2;have hl:∃kl,a.eval l=.int kl (l':Int):=by
    cases hx:bH fr l with
    |none=>rw[hx]at h1;cases h1
    |some q=>
     rw[hx]at h1;obtain⟨kl,zl,e1,e2,e3⟩:=FL h1 (eW hf hx);exact⟨kl,by rw[e1,<-e3];congr 1;omega⟩
   have hk:∃kk,a.eval k=.int kk (k':Int):=by
    cases hx:bH fr k with
    |none=>rw[hx]at h2;cases h2
    |some q=>
     rw[hx]at h2;obtain⟨kl,zl,e1,e2,e3⟩:=FL h2 (eW hf hx);exact⟨kl,by rw[e1,<-e3];congr 1;omega⟩
   obtain⟨kl,hl⟩:=hl;obtain⟨kk,hk⟩:=hk;obtain⟨v,w',r,hlv⟩:=aIo (fl:=fl) hs hu h kl kk;exact⟨v,w',.inl (by simp[execOp,hl,hk,r]),hlv⟩
  .exact ak
 .rename_i args ts;split at h
  .rename_i s t h1 h2;split at h
   .rename_i s' hs';simp only[yAb,yAc]at h;obtain⟨rfl,rfl⟩:=h;have hv:=tV hf h1;have hvl:=hv.1;obtain⟨args⟩:=args;obtain⟨ts⟩:=ts;simp only at h1 hv hvl h2
    match args,hv,hvl with
    | [x1],hv,_=>
      subst h2;obtain⟨v,w',r,hl⟩:=aIp (fl:=fl) hs hs' (hv.2 0 _ _ rfl rfl) ty;exact ff
   .exact ak
  .exact ak
 .rename_i args ts;split at h
  .rename_i d x t t' h1 h2;have hv:=tV hf h1;have hvl:=hv.1;obtain⟨args⟩:=args;obtain⟨ts⟩:=ts;simp only at h1 hv hvl h2
   match args,hv,hvl with
   | [x1,x2],hv,_=>
     subst h2;obtain⟨v,w',r,hl⟩:=aIq (fl:=fl) hs h (hv.2 0 _ _ rfl rfl) (hv.2 1 _ _ rfl rfl) ty;exact ff
  .exact ak
 .rename_i t;split at h
  .simp only[yAb,yAc]at h;obtain⟨rfl,rfl⟩:=h;obtain⟨v,w',r,hl⟩:=aIr (P:=P) (fl:=fl) hs t;exact⟨v,w',.inl Ih,hl⟩
  .exact ak
 .rename_i t x k ok;split at h
  .rename_i m k' h1 h2;split at h
   .rename_i q hq;simp only[yAb,yAc]at h;obtain⟨rfl,rfl⟩:=h;obtain⟨v,r,hv⟩:=aIs hs hq (eW hf h1) (eW hf h2);exact ki
   .exact ak
  .exact ak
 .rename_i t x k v;split at h
  .rename_i m k' v' h1 h2 h3;split at h
   .rename_i s' hs';simp only[yAb,yAc]at h;obtain⟨rfl,rfl⟩:=h;obtain⟨w',r,hl⟩:=aIt (fl:=fl) hs hs' (eW hf h1) (eW hf h2) (eW hf h3);exact⟨undef,w',.inr ⟨Ih,rfl⟩,hl⟩
   .exact ak
  .exact ak
 .rename_i args ts;split at h
  .rename_i s x t t' h1 h2;split at h
   .rename_i htt;subst htt;have hv:=tV hf h1;have hvl:=hv.1;obtain⟨args⟩:=args;obtain⟨ts⟩:=ts;simp only at h1 hv hvl h2
    match args,hv,hvl with
    | [x1,x2],hv,_=>
      subst h2;split at h
      .rename_i q hq;simp only[yAb]at h;subst h;obtain⟨v,w',r,hl⟩:=aIu (fl:=fl) hs hq (hv.2 0 _ _ rfl rfl) (hv.2 1 _ _ rfl rfl) ty;exact ff
      .obtain⟨v,w',r,hl⟩:=aIv hs hX h (hv.2 0 _ _ rfl rfl) (hv.2 1 _ _ rfl rfl).strip ty;exact ff
   .split at h
    .rename_i l hst;split at h
     .rename_i hb;have hv:=tV hf h1;have hvl:=hv.1;obtain⟨args⟩:=args;obtain⟨ts⟩:=ts;simp only at h1 hv hvl h2
      match args,hv,hvl with
      | [x1,x2],hv,_=>
        subst h2;have hx2:=(hv.2 1 _ _ rfl rfl).tX;obtain⟨v,w',r,hl⟩:=aIw hs hX hst hb h (hv.2 0 _ _ rfl rfl) ty;exact pq
     .exact ak
    .rename_i m hst;have hv:=tV hf h1;have hvl:=hv.1;obtain⟨args⟩:=args;obtain⟨ts⟩:=ts;simp only at h1 hv hvl h2
     match args,hv,hvl with
     | [x1,x2],hv,_=>
       subst h2;have hx2:=(hv.2 1 _ _ rfl rfl).qV;obtain⟨v,w',r,hl⟩:=aIx (fl:=fl) hs hst h (hv.2 0 _ _ rfl rfl) ty;exact pq
    .exact ak
  .exact ak
 .exact ak
theorem aId(hs:Sr c)(hX:Xw fl c){a:Act}{fr:Jk}(hf:FR c a fr){o:Oper}{p:PD}{σ':Jj}(h:pop P fl fr c.σ o.op=some (p,σ')) :
  ∃v w',aBO P o a c.w v w'/\Leaves fl c p σ' v w':=by
 unfold pop at h;split at h
 .rename_i q hq;simp only[yAb,yAc]at h;obtain⟨rfl,rfl⟩:=h;obtain⟨v,r,hv⟩:=aIy hf hq c.w;exact⟨v,c.w,.inl r,c,rfl,rfl,hs,.refl _ _,hv,λ_ h=>.inl h⟩
 .exact aIi hs hX hf h
theorem aIb{a:Act}{fr:Jk}(hf:FR c a fr){o:Oper}{f:FuncId}{ps:Jk}(h:iX fr o.op=some (.inl f,ps)){fn:Func}(hfn:P.funcs[f]?=some fn)(hb:fn.body.isSome=true)(hn:(fn.name== "runtime.NumGoroutine")=false) :
  ∃vs:List Value,(execOp a.eval o).run P c.w=.ok (.enter f vs.toArray) c.w/\aZ c vs ps:=by
 obtain⟨dst,op,ty,pos,after,guard⟩:=o;simp only at h;unfold iX at h;split at h
 .rename_i g args ts;split at h
  .rename_i f' cap qs h1 h2;simp only[yAb,yAc,yDJ]at h;obtain⟨rfl,rfl⟩:=h;obtain⟨cs,e,hcs⟩:=(eW hf h1).KJ;have hv:=tV hf h2;refine⟨args.toList.map a.eval++cs,?_,hv.append hcs⟩;have hb':fn.body.isNone=false:=Hl;have e2:(#[]++args.map a.eval++cs.toArray)=(args.toList.map a.eval++cs).toArray:=Ep;exact qo
  .rename_i f' first qs h1 h2;simp only[yAb,yAc,yDJ]at h;obtain⟨rfl,rfl⟩:=h;obtain⟨cs,e,hcs⟩:=(eW hf h1).aBL;have hv:=tV hf h2;refine⟨cs++args.toList.map a.eval,?_,hcs.append hv⟩;have hb':fn.body.isNone=false:=Hl;have e2:(cs.toArray++args.map a.eval++#[])=(cs++args.toList.map a.eval).toArray:=Ep;exact qo
  .exact ak
  .exact ak
 .exact ak
theorem VR.aIz{v:Value}{id:Nat}(h:VR c v (.yield id)):∃l,v=.func (.yield l) #[] #[]/\c.D id/\mG c.σ[id]?/\c.ρ id=.pointer (some ⟨l,0,none⟩):=by
 cases h with|yield _ l h1 h2 h3=>exact⟨l,rfl,h1,h2,h3⟩
theorem aIc{a:Act}{fr:Jk}(hf:FR c a fr){o:Oper}{id:Nat}{ps:Jk}(h:iX fr o.op=some (.inr id,ps)) :
  ∃(l:Nat) (vs:List Value),(∀w:World,(execOp a.eval o).run P w=(Instr.yield l vs.toArray).run P w)/\aZ c vs ps/\c.D id/\c.ρ id=.pointer (some ⟨l,0,none⟩):=by
 obtain⟨dst,op,ty,pos,after,guard⟩:=o;simp only at h;unfold iX at h;split at h
 .rename_i g args ts;split at h
  .exact ak
  .exact ak
  .rename_i id' qs h1 h2;simp only[yAb,yAc,Sum.inr.injEq]at h;obtain⟨rfl,rfl⟩:=h;obtain⟨l,e,hd,hn,hr⟩:=(eW hf h1).aIz;have hv:=tV hf h2;refine⟨l,args.toList.map a.eval,λw=>?_,hv,hd,hr⟩;have e2:(#[]++args.map a.eval)=(args.toList.map a.eval).toArray:=Ep;simp only[execOp,resolve,e,Deferred.ofValue,yBb,yBo,yBg,invoke,e2]
  .exact ak
 .exact ak
end
end
section
inductive PX where
 |normal
 |exit (id:Nat)
 |ret
def PX.KI:PX->Exit
 |.normal=>.normal
 |.exit id=>.exit id
 |.ret=>.ret
structure PO where
 x:PX
 fr:Jk
 ms:List Nat
 σ:Jj
abbrev dB:=Nat->FuncId ⊕ Nat->List PD->List aA->Option (PD×List aA)
abbrev uX:=Option Nat->Code->Nat->List PD->List Nat->List aA->Option PO
abbrev aE:=FuncId->Option (Nat->List PD->List aA->Option (PD×List aA))
def dE(P:Program)(call:dB)(fl:Nat)(fr:List PD)(σ:List aA)(op:Op):Option (PD×List aA):=
 match iX fr op with
 |some (tg,args)=>call fl tg args σ
 |none=>pop P fl fr σ op
def fK(P:Program)(call:dB)(fl:Nat)(ops:Array Oper):List Oper->List PD->List aA->Option (List PD×List aA)
 | [],fr,σ=>some (fr,σ)
 |o::rest,fr,σ=>
  if Region.wanted o (cK ops fr)then
   match dE P call fl fr σ o.op with
   |some (p,σ')=>fK P call fl ops rest (bG fr o.dst p) σ'
   |none=>none
  else fK P call fl ops rest (bG fr o.dst (.aH [])) σ
def O5(P:Program)(call:dB)(fl:Nat)(ops:Array Oper):List Oper->List PD->List aA->Option (List PD×List aA)
 | ⟨some d,.buildSlice t len parts,_,_,_,none⟩::⟨d2,.convert s t' (.tmp d'),_,_,_,none⟩::rest,fr,σ=>
   match P.underlying t with
   |some (.slice e)=>match P.underlying e with
    |some (.int .u8)=>if s=t/\t'=t/\d'=d/\d<fr.length then
      match rH fr parts.toList with
      |some ps=>match uV P t len (ps.map λq=>(q.1,q.2.strip))with
       |some (.slice n xs .full)=>fK P call fl ops rest (bG (fr.set d (.slice n xs .full)) d2 (.slice n xs .full)) σ
       |_=>none
      |none=>none
     else none
    |_=>none
   |_=>none
 |_,_,_=>none
def C4(P:Program)(call:dB)(fl:Nat)(ops:Array Oper)(fr:List PD)(σ:List aA):Option (List PD×List aA):=
 match fK P call fl ops ops.toList fr σ with
 |some x=>some x
 |none=>O5 P call fl ops ops.toList fr σ
def fH:Op->Bool
 |.convert s d _=>!E8 s d
 |.move _|.assign _|.pick .. | .binOp .. | .unOp .. | .makeFunc .. | .slice .. | .fieldAddr .. | .field .. | .indexAddr .. | .index .. | .extract .. | .nilCheck _|.build ..=>true
 |.call { callee:=.builtin .len,.. } | .call { callee:=.builtin .min,.. } | .call { callee:=.builtin .max,.. }=>true
 |_=>false
def eN:Op->Bool
 |.load ..=>true
 |.convert s d _=>E8 s d
 |_=>false
def dF:Op->Bool
 |.alloc _=>true
 |_=>false
def mkSure(t:TypeId)(a b:Operand):Bool:=match a,b with
 |.const (.int _ l),.const (.int _ k)=>decide (l=k)&&decide (0<l)&&!T5 t
 |_,_=>false
def mN:Op->Bool
 |.buildSlice ..=>true
 |.makeSlice t a b=>mkSure t a b
 |_=>false
def gA:Op->Bool
 |.store ..=>true
 |_=>false
def eC:Op->Bool
 |.box ..=>true
 |.call { callee:=.value _,.. }=>true
 |.call { callee:=.builtin .append,.. }=>true
 |.call { callee:=.builtin .copy,.. }=>true
 |_=>false
def eV(o:Op):Bool:=gA o||eC o
def zF(acc:List Nat)(o:Oper):Nat:=
 o.after.toList.foldl (λs e=>if Region.binds .any e then s ||| 2^e.on ||| acc.getD e.on 0 else s) 0
def cY:List Oper->List Nat->List Nat
 | [],acc=>acc
 |o::r,acc=>cY r (acc++[zF acc o])
def eU(f:Op->Bool)(ops:List Oper)(i:Nat):Bool:=((ops[i]?).map λo=>f o.op).getD false
def loose(ms:List Nat)(i j:Nat):Bool:=!(ms.getD i 0).testBit j&&!(ms.getD j 0).testBit i
def kP(ops:List Oper)(ms:List Nat)(k:Nat):Bool:=
 (List.range ops.length).all λi=>!eU eN ops i||!loose ms i k
def aBI(ops:Array Oper)(i:Nat)(o:Oper):Bool:=
 (List.range ops.size).all λj=>j==i ||
  match ops[j]? with
  |none=>true
  |some oj=>match oj.dst with
   |none=>true
   |some d=>(o.dst != some d)&&(!(o.looksAt ops).contains d ||
     (if j<i then o.after.any (λe=>Region.binds .any e&&e.on==j)else oj.after.any (λe=>Region.binds .any e&&e.on==i)))
def wL(ops:Array Oper)(ms:List Nat):Bool:=
 Region.noSelect ops &&
 (List.range ops.size).all λi=>match ops[i]? with
  |none=>true
  |some o=>(fH o.op||eN o.op||dF o.op||mN o.op||eV o.op)&&aBI ops i o&&o.after.all (λe=>!Region.binds .any e||e.on<i) &&
    (!eV o.op||(List.range i).all λj=>!eU eV ops.toList j||(ms.getD i 0).testBit j)
def mO(P:Program):List Oper->Option (List aA)
 | []=>some []
 |o::r=>match o.op with
  |.alloc t=>match fQ P t,mO P r with
    |some p,some l=>if p.cells.all PD.plain then some (.box (boxed t p)::l)else none
    |_,_=>none
  |_=>mO P r
def gS:PD->Option Nat
 |.ptr id _=>some id
 |.dM id _ _=>some id
 |.eD id _ _ _=>some id
 |_=>none
def kV(fr:List PD):Op->Option Nat
 |.load _ x=>match bH fr x with|some a=>gS a|none=>none
 |.store _ x _=>match bH fr x with|some a=>gS a|none=>none
 |.convert _ _ x=>match bH fr x with|some a=>gS a|none=>none
 |_=>none
def iE(P:Program)(call:dB)(fl:Nat)(free:Bool)(k:Nat)(fr:List PD)(σ:List aA)(op:Op):Option (PD×List aA):=
 if fH op then(match eS P fr op with|some p=>some (p,σ)|none=>none)
 else if dF op then some (.ptr k 0,σ)
 else if eC op&&!free then
  match dE P call (max fl σ.length) fr σ op with
  |some (p,σ')=>some (p,σ++σ'.drop σ.length)
  |none=>none
 else if eC op then dE P call fl fr σ op
 else dK P fl fr σ op
structure TE where
 fr:Jk
 σ:Jj
 p:PD
 jX:Option Nat
def fI(P:Program)(call:dB)(fl:Nat)(ops:Array Oper)(ms:List Nat):Nat->Nat->List Oper->List PD->List aA->Option (List TE×Jk×List aA)
 |_,_,[],fr,σ=>some ([],fr,σ)
 |i,k,o::rest,fr,σ=>
  let k':=if dF o.op then k+1 else k
  if Region.wanted o (cK ops fr)then
   match iE P call fl (kP ops.toList ms i) k fr σ o.op with
   |some (p,σ')=>match fI P call fl ops ms (i+1) k' rest (bG fr o.dst p) σ' with
    |some (tr,fr',BE)=>some (⟨fr,σ,p,kV fr o.op⟩::tr,fr',BE)
    |none=>none
   |none=>none
  else match fI P call fl ops ms (i+1) k' rest (bG fr o.dst (.aH [])) σ with
   |some (tr,fr',BE)=>some (⟨fr,σ,.aH [],none⟩::tr,fr',BE)
   |none=>none
def pH(ops:List Oper)(ms:List Nat)(tr:List TE):Bool:=
 (List.range ops.length).all λk=>!eU gA ops k||(List.range ops.length).all λi=>!eU eN ops i||!loose ms i k ||
  match ((tr[i]?).bind TE.jX),((tr[k]?).bind TE.jX)with
  |some a,some b=>a != b
  |_,_=>true
def nP(P:Program)(call:dB)(fl:Nat)(ops:Array Oper)(fr:List PD)(σ:List aA):Option (List PD×List aA):=
 let ms:=cY ops.toList []
 if wL ops ms then
  match mO P ops.toList with
  |some hs=>match fI P call fl ops ms 0 σ.length ops.toList fr (σ++hs)with
   |some (tr,fr',σ')=>if pH ops.toList ms tr then some (fr',σ')else none
   |none=>none
  |none=>none
 else none
def qA(P:Program)(call:dB)(fl:Nat)(ops:Array Oper):Nat->Nat->List Oper->List PD->List aA->Option (List TE×Jk×List aA)
 |_,_,[],fr,σ=>some ([],fr,σ)
 |i,k,o::rest,fr,σ=>
  let k':=if dF o.op then k+1 else k
  if Region.wanted o (cK ops fr)then
   match iE P call fl true k fr σ o.op with
   |some (p,σ')=>match qA P call fl ops (i+1) k' rest (bG fr o.dst p) σ' with
    |some (tr,fr',BE)=>some (⟨fr,σ,p,kV fr o.op⟩::tr,fr',BE)
    |none=>none
   |none=>none
  else match qA P call fl ops (i+1) k' rest (bG fr o.dst (.aH [])) σ with
   |some (tr,fr',BE)=>some (⟨fr,σ,.aH [],none⟩::tr,fr',BE)
   |none=>none
def TE.at(tr:List TE)(wR:List aA)(j:Nat):List aA:=match tr[j]? with
 |some t=>t.σ
 |none=>wR
def aIh(ops:List Oper)(ms:List Nat)(tr:List TE)(wR:List aA):Prop:=
 ∀(k i id:Nat) (ok oi:Oper),ops[k]?=some ok->ops[i]?=some oi->eC ok.op=true->eN oi.op=true->loose ms i k=true->(tr[i]?).bind TE.jX=some id ->
  (TE.at tr wR k).length<=(TE.at tr wR (k+1)).length/\(id<(TE.at tr wR k).length->(TE.at tr wR (k+1))[id]?=(TE.at tr wR k)[id]?)
open Classical in
def mP(P:Program)(call:dB)(fl:Nat)(ops:Array Oper)(fr:List PD)(σ:List aA):Option (List PD×List aA):=
 match nP P call fl ops fr σ with
 |some x=>some x
 |none=>if wL ops (cY ops.toList [])then
  match mO P ops.toList with
  |some hs=>match qA P call fl ops 0 σ.length ops.toList fr (σ++hs)with
   |some (tr,fr',σ')=>if pH ops.toList (cY ops.toList []) tr=true/\aIh ops.toList (cY ops.toList []) tr σ' then some (fr',σ')else none
   |none=>none
  |none=>none
 else none
def CZ(P:Program)(fr:List PD)(σ:List aA):ResultVar->Option PD
 |.tmp t=>some (fr.getD t (.aH []))
 |.cell a t=>match fr.getD a (.aH [])with
   |.ptr id off=>qP P σ t (.ptr id off)
   |_=>none
def zH(P:Program)(fr:List PD)(σ:List aA):List ResultVar->Option (List PD)
 | []=>some []
 |r::rs=>match CZ P fr σ r,zH P fr σ rs with
  |some p,some ps=>some (p::ps)
  |_,_=>none
def FB:List PD->PD
 | [p]=>p
 |ps=>.aH ps
def A0(fl:Nat):List Nat->List aA->Option (List aA)
 | [],σ=>some σ
 |m::ms,σ=>if fl<=m then(match σ[m]? with
  |some .mark=>A0 fl ms (σ.set m .none)
  |_=>none)else none
def FA(fr:List PD):List Tmp->List PD->Jk
 |t::ts,p::ps=>FA (fr.set t p) ts ps
 |_,_=>fr
def KN(code:uX)(fl:Nat)(id:Nat)(args:List PD)(σ:List aA):Option (PD×List aA):=
 if fl<=id then
  match σ[id]? with
  |some (.loop .ready fr ps assign body)=>
   if args.length=ps.length then
    match code (some id) assign fl (FA fr ps args) [] σ with
    |some ⟨.normal,aX,ms1,σ1⟩=>
     match σ1[id]? with
     |some (.loop .ready kU HI HJ HK)=>
      match code (some id) body fl aX ms1 (σ1.set id (.loop .busy kU HI HJ HK))with
      |some ⟨x,_,_,σ2⟩=>
       match σ2[id]? with
       |some (.loop .busy OV KO OW OX)=>
        match x with
        |.normal=>some (.bool true,σ2.set id (.loop .ready OV KO OW OX))
        |.ret=>some (.bool false,σ2.set id (.loop (.done .ret) OV KO OW OX))
        |.exit k=>some (.bool false,σ2.set id (.loop (.done (.exit k)) OV KO OW OX))
       |_=>none
      |none=>none
     |_=>none
    |_=>none
   else none
  |_=>none
 else none
def bV(P:Program)(fl:Nat)(fn:Func)(r:PO):Option (PD×List aA):=
 match r.x with
 |.exit _=>none
 |_=>match A0 fl r.ms r.σ with
  |some σ=>match zH P r.fr σ fn.results.toList with
   |some ps=>some (FB ps,σ)
   |none=>none
  |none=>none
def FE(P:Program)(code:uX)(fl:Nat)(f:FuncId)(args:List PD)(σ:List aA):Option (PD×List aA):=
 match P.funcs[f]? with
 |some fn=>match fn.body with
  |some c=>match code none c fl (args++List.replicate (fn.ntmps-args.length) (.aH [])) [] σ with
   |some r=>bV P fl fn r
   |none=>none
  |none=>none
 |none=>none
def tN(P:Program)(E:aE)(code:uX):dB
 |fl,.inl f,args,σ=>match E f with
  |some g=>g fl args σ
  |none=>FE P code fl f args σ
 |fl,.inr id,args,σ=>KN code fl id args σ
def KD(id:Nat)(fr:List PD)(ms:List Nat)(σ:List aA):Option PO:=
 match σ[id]? with
 |some (.loop .ready _ _ _ _)=>some ⟨.normal,fr,ms,σ.set id .none⟩
 |some (.loop (.done .ret) _ _ _ _)=>some ⟨.ret,fr,ms,σ.set id .none⟩
 |some (.loop (.done (.exit k)) _ _ _ _)=>some ⟨.exit k,fr,ms,σ.set id .none⟩
 |_=>none
def KK(call:dB)(rd:Option Nat)(gf:FuncId)(cap:List PD)(ps:List Tmp)(assign body:Code)(fl:Nat)(fr:List PD)(ms:List Nat)(σ:List aA):Option PO:=
 if fl<=σ.length then
  match rd with
  |none=>match call fl (.inl gf) (.yield (σ.length+1)::cap) (σ++[.mark]++[.loop .ready fr ps assign body])with
   |some (_,σ2)=>KD (σ.length+1) fr (σ.length::ms) σ2
   |none=>none
  |some l=>match σ[l]? with
   |some (.loop _ _ _ _ _)=>match call fl (.inl gf) (.yield σ.length::cap) (σ++[.loop .ready fr ps assign body])with
    |some (_,σ2)=>KD σ.length fr ms σ2
    |none=>none
   |_=>none
 else none
def jW(P:Program)(E:aE):Nat->uX
 |0=>λ_ _ _ _ _ _=>none
 |n+1=>λrd c fl fr ms σ=>
  match c with
  |.skip=>some ⟨.normal,fr,ms,σ⟩
  |.region _ ops false=>match C4 P (tN P E (jW P E n)) fl ops fr σ with
    |some (fr',σ')=>some ⟨.normal,fr',ms,σ'⟩
    |none=>none
  |.region _ ops true=>match mP P (tN P E (jW P E n)) fl ops fr σ with
    |some (fr',σ')=>some ⟨.normal,fr',ms,σ'⟩
    |none=>none
  |.seq x y=>match jW P E n rd x fl fr ms σ with
    |some ⟨.normal,fr',ms',σ'⟩=>jW P E n rd y fl fr' ms' σ'
    |r=>r
  |.cond g x y=>match bH fr g with
    |some (.bool true)=>jW P E n rd x fl fr ms σ
    |some (.bool false)=>jW P E n rd y fl fr ms σ
    |_=>none
  |.block id b=>match jW P E n rd b fl fr ms σ with
    |some ⟨.exit k,fr',ms',σ'⟩=>some ⟨if k=id then .normal else .exit k,fr',ms',σ'⟩
    |r=>r
  |.loop b=>match jW P E n rd b fl fr ms σ with
    |some ⟨.normal,fr',ms',σ'⟩=>jW P E n rd (.loop b) fl fr' ms' σ'
    |r=>r
  |.rangeFunc g ps assign body=>match bH fr g with
    |some (.func gf cap)=>KK (tN P E (jW P E n)) rd gf cap ps.toList assign body fl fr ms σ
    |_=>none
  |.exit id=>some ⟨.exit id,fr,ms,σ⟩
  |.ret=>some ⟨.ret,fr,ms,σ⟩
  |_=>none
def fG(P:Program)(E:aE)(n:Nat):dB:=tN P E (jW P E n)
end
section
open Go.RowKit
def FH(fl:Nat)(c:Cx)(p:PD)(σ':List aA):Ending->World->Prop
 |.returned v,w'=>Leaves fl c p σ' v w'
 |_,_=>False
structure Ok (F:Fence) (P:Program) (call:dB):Prop where
 fn:∀ {fl:Nat} {f:FuncId} {args:Jk} {c:Cx} {vs:Jm} {p:PD} {σ':Jj},call fl (.inl f) args c.σ=some (p,σ')->Sr c->Xw fl c->aZ c vs args ->
  (∃fn,P.funcs[f]?=some fn/\fn.body.isSome=true)/\∀m,CallsIn F m P f vs.toArray c.w (FH fl c p σ')
 round:∀ {fl id l:Nat} {args:Jk} {c:Cx} {vs:Jm} {p:PD} {σ':Jj},call fl (.inr id) args c.σ=some (p,σ')->Sr c->Xw fl c->aZ c vs args->c.D id->c.ρ id=.pointer (some ⟨l,0,none⟩) ->
  ∃g tmps asg bd,(Instr.yield l vs.toArray).run P c.w=.ok (.round l g tmps asg bd) c.w/\∀m,RoundIn F m P l g tmps asg bd c.w (FH fl c p σ')
structure Open (F:Fence) (P:Program):Prop where
 fn:∀f,F.fn f
 depth:F.depth=none
 name:∀(f:FuncId) fn,P.funcs[f]?=some fn->(fn.name== "runtime.NumGoroutine")=false
 alive:F.alive=false
section
variable{F:Fence}{P:Program}{call:dB}{c:Cx}{fl n:Nat}{Q:Exit->Act->World->Prop}
theorem Open.asks(hF:Open F P):F.depth.isSome=true->1<=n:=by rw[hF.depth];intro h;cases h
theorem aBx(hF:Open F P)(hc:Ok F P call)(hs:Sr c)(hX:Xw fl c){a:Act}{fr:Jk}(hf:FR c a fr){o:Oper}{p:PD}{σ':Jj}
  (h:dE P call fl fr c.σ o.op=some (p,σ')) {K:Act->World->Prop} (hK:∀v w',Leaves fl c p σ' v w'->K (a.put o.dst v) w'):o.wpIn F n P a c.w K Q:=by
 have hnd:∀d,o.op≠.defer d:=by
  intro d e;rw[e]at h;simp[dE,iX,pop,eS,dK]at h
 refine⟨λf _=>hF.fn f,?_⟩;rw[Oper.semAt_eq _ _ _ hnd];unfold dE at h;split at h
 .rename_i tg args htg;cases tg with
  |inl f=>
   obtain⟨vs0,aIa⟩:∃vs:List Value,aZ c vs args:=by
    unfold iX at htg;split at htg
    .split at htg
     .rename_i g args' ts f' cap qs h1 h2;simp only[yAb,yAc,yDJ]at htg;obtain⟨rfl,rfl⟩:=htg;obtain⟨cs,e,hcs⟩:=(eW hf h1).KJ;exact⟨_,(tV hf h2).append hcs⟩
     .rename_i f' first qs h1 h2;simp only[yAb,yAc,yDJ]at htg;obtain⟨rfl,rfl⟩:=htg;obtain⟨cs,e,hcs⟩:=(eW hf h1).aBL;exact⟨_,hcs.append (tV hf h2)⟩
     .simp at htg
     .simp at htg
    .simp at htg
   obtain⟨⟨fn,hfn,hb⟩,_⟩:=hc.fn h hs hX aIa;obtain⟨vs,r,hvs⟩:=aIb (P:=P) hf htg hfn hb (hF.name f fn hfn);rw[r];refine⟨hF.asks,yCE ((hc.fn h hs hX hvs).2 _) λe w'' he=>?_⟩;exact qj
  |inr id=>
   obtain⟨l,vs,r,hvs,hd,hr⟩:=aIc (P:=P) hf htg;obtain⟨g,tmps,asg,bd,ry,hround⟩:=hc.round h hs hX hvs hd hr;rw[r,ry];refine⟨hF.asks,RoundIn.mono (hround _) λe w'' he=>?_⟩;exact qj
 .obtain⟨v,w',hy,hl⟩:=aId (P:=P) hs hX hf h;rcases hy with hy | ⟨hy,rfl⟩
  .rw[hy];exact hK v w' hl
  .rw[hy];exact hK undef w' hl
theorem FR.put{a:Act}{fr:Jk}(hf:FR c a fr){v:Value}{p:PD}(hv:VR c v p)(dst:Option Tmp):FR c (a.put dst v) (bG fr dst p):=by
 cases dst with
 |none=>exact hf
 |some d=>
  refine⟨⟨by simpa [Act.put,bG]using hf.1.1,λi u q h1 h2=>?_⟩,hf.2⟩;simp only[Act.put,bG,yEa,yCZ]at h1 h2
  by_cases e:d=i
  .subst e;simp only[yAK]at h1 h2;split at h1
   .split at h2
    .simp only[yAb]at h1 h2;subst h1 h2;exact hv
    .simp at h2
   .simp at h1
  .rw[yAI e]at h1 h2;exact hf.1.2 i u q h1 h2
theorem VR.undef(c:Cx):VR c undef (.aH []):=.aH [] [] rfl (λi v d h=>Dw)
theorem VR.aBM{v:Value}{p:PD}(h:VR c v p)(b:Bool):v=.bool b↔p=.bool b:=by
 constructor
 .rintro rfl
  cases h with
  |bool=>rfl
  |gR _ h=>cases h
 .rintro rfl;cases h;rfl
theorem aIe{a:Act}{fr:Jk}(hf:FR c a fr)(ops:Array Oper)(j:Nat):yielded ops a.tmps j=cK ops fr j:=by
 unfold yielded cK;cases hd:(ops[j]?).bind (·.dst)with
 |none=>rfl
 |some d=>
  simp only[yCJ];have hl:=hf.1.1;rcases yCg d fr.length with hlt|hge
  .have hlt':d<a.tmps.toList.length:=by rw[hl];exact hlt
   have e1:a.tmps[d]?=some (a.tmps.toList[d]):=by rw[<-yCH];exact yAh hlt'
   have e2:fr[d]?=some fr[d]:=yAh hlt;have hv:=hf.1.2 d _ _ (yAh hlt') e2;rw[e1,e2];cases hx:fr[d]with
   |bool b=>rw[hx]at hv;rw[(hv.aBM b).2 rfl]
   |_=>
    rw[hx]at hv;cases hy:a.tmps.toList[d]with
    |bool b=>rw[hy]at hv;have:=(hv.aBM b).1 rfl;cases this
    |_=>rfl
  .have e1:a.tmps[d]?=none:=by rw[<-yCH];exact yBy (by rw[hl];exact hge)
   rw[e1,yBy hge]
theorem aBw{a:Act}{fr:Jk}(hf:FR c a fr)(ops:Array Oper)(o:Oper):Region.wanted o (yielded ops a.tmps)=Region.wanted o (cK ops fr):=by
 have:yielded ops a.tmps=cK ops fr:=funext λj=>aIe hf ops j
 rw[this]
theorem aBj(hF:Open F P)(hc:Ok F P call){ops:Jo}:∀(l:List Oper) (i:Nat) (_:ops.toList.drop i=l) {c:Cx} (_:Sr c) (_:Xw fl c) {a:Act} {fr:Jk} (_:FR c a fr) {fr':Jk} {σ':Jj}
  (_:fK P call fl ops l fr c.σ=some (fr',σ'))
  (_:∀c' a',c'.σ=σ'->Sr c'->Nx fl c c'->FR c' a' fr'->a'.defers=a.defers->Q .normal a' c'.w),wpOpsIn F n P ops Q (List.range' i l.length) a c.w:=by
 intro l
 induction l with
 |nil=>
  intro i _ c hs hX a fr hf fr' σ' h hQ;simp only[fK,yAb,yAc]at h;obtain⟨rfl,rfl⟩:=h;exact hQ c a rfl hs (.refl _ _) hf rfl
 |cons o rest ih=>
  intro i hdrop c hs hX a fr hf fr' σ' h hQ;have hi:i<ops.toList.length:=by
   rcases yCg i ops.toList.length with h' | h'
   .exact h'
   .rw[yAs h']at hdrop;cases hdrop
  have ho:ops[i]?=some o:=by
   have:ops.toList[i]?=some o:=by
    have:=yAL List.head? hdrop;simpa [yCC]using this
   rw[<-yCH];exact this
  have zJ:ops.toList.drop (i+1)=rest:=by
   rw[<-yBE,hdrop];rfl
  simp only[yAT,yDs,wpOpsIn,ho];rw[aBw hf];simp only[fK]at h;split at h
  .rename_i hw;rw[yAJ hw];split at h
   .rename_i p σ1 hst;refine aBx hF hc hs hX hf hst λv w' hl=>?_
    obtain⟨c',rfl,rfl,hs',nx,hv,_⟩:=hl;exact ih (i+1) zJ hs' (hX.next hs nx) ((hf.mono nx).put hv _) h
     (λKT qQ e1 e2 e3 e4 e5=>hQ KT qQ e1 e2 (nx.trans e3) e4 (e5.trans (by cases o.dst<;>rfl)))
   .exact ak
  .rename_i hw;rw[yAI hw];refine⟨λf _=>hF.fn f,?_⟩;exact ih (i+1) zJ hs hX (hf.put (VR.undef c) _) h
    (λKT qQ e1 e2 e3 e4 e5=>hQ KT qQ e1 e2 e3 e4 (e5.trans (by cases o.dst<;>rfl)))
theorem aHI(hF:Open F P)(hc:Ok F P call){ops:Jo}{c:Cx}(hs:Sr c)(hX:Xw fl c){a:Act}{fr:Jk}(hf:FR c a fr){fr':Jk}{σ':Jj}
  (h:O5 P call fl ops ops.toList fr c.σ=some (fr',σ'))
  (hQ:∀c' a',c'.σ=σ'->Sr c'->Nx fl c c'->FR c' a' fr'->a'.defers=a.defers->Q .normal a' c'.w):wpOpsIn F n P ops Q (List.range' 0 ops.toList.length) a c.w:=by
 unfold O5 at h;split at h
 .rename_i d t len parts ty1 pos1 ed1 d2 s t' d' ty2 pos2 ed2 rest hops;split at h
  .rename_i e hu;split at h
   .rename_i he;split at h
    .rename_i hcond;obtain⟨hst,htt,hdd,hdl⟩:=hcond;subst hst;subst htt;subst hdd;split at h
     .rename_i ps hps;split at h
      .rename_i m xs hnew;obtain⟨a1,a2⟩:=O6 hf hps;obtain⟨e',cells',wQ,hrun,hv⟩:=aBN hs (vparts:=parts.toList.map λq=>(q.1,a.eval q.2)) hnew (by simpa using a1) (λi jv jp h3 h4=>by
        rw[yAo]at h4;cases hx:ps[i]? with
        |none=>rw[hx]at h4;simp at h4
        |some x=>
         rw[hx]at h4;simp only[yAC,yAb]at h4;subst h4;exact⟨(a2 i jv x h3 hx).1,(a2 i jv x h3 hx).2.strip⟩)
       obtain rfl:e=e':=by rw[hu]at wQ;simpa using wQ
       have hgr:=aIf c.w e cells';obtain⟨fz,hfz⟩:=aIg c.w e cells';have hvr:=hv _ fz hgr hfz;have hmk:=run_mark (P:=P) c.w cells' len len hu he;have nx:Nx fl c (c.at ((c.w.alloc (.cells cells' e)).freeze ⟨c.w.heap.size,cells'.size,none⟩ 1)):=Nx.grow hs hgr;have hs':=Sr.grow hs hgr;obtain⟨v,hvd⟩:∃v:Value,v=.slice (some ⟨c.w.heap.size,0,none⟩) len len:=⟨_,rfl⟩;rw[<-hvd]at hrun hvr hmk;have nM:=((hf.mono nx).put hvr (some d')).put hvr d2;have h0:ops[0]?=some ⟨some d',.buildSlice t' len parts,ty1,pos1,ed1,none⟩:=by rw[<-yCH,hops];rfl
       have h1:ops[1]?=some ⟨d2,.convert t' t' (.tmp d'),ty2,pos2,ed2,none⟩:=by rw[<-yCH,hops];rfl
       have hlen:ops.toList.length=rest.length+2:=by rw[hops];rfl
       rw[hlen,yDs,yDs];simp only[wpOpsIn,h0,h1,yAp];rw[yAJ (show Region.wanted _ _=true from rfl)];refine⟨λf _=>hF.fn f,?_⟩;rw[Oper.semAt_eq _ _ _ (by intro d e;cases e)];have earr:(Array.map (λx=>match x with|(i,x)=>(i,a.eval x)) parts)=(parts.toList.map λq=>(q.1,a.eval q.2)).toArray:=Ep;have nS:(execOp a.eval ⟨some d',.buildSlice t' len parts,ty1,pos1,ed1,none⟩).run P c.w=.ok (.value v) (c.w.alloc (.cells cells' e)):=by
        simp only[execOp,yBb];rw[earr,hrun];simp
       rw[nS];simp only[Oper.uponIn,Region.wanted,yAK];refine⟨λf _=>hF.fn f,?_⟩;rw[Oper.semAt_eq _ _ _ (by intro d e;cases e)];have hdt:d'<a.tmps.size:=by
        have h9:a.tmps.toList.length=_:=hf.1.1;rw[yBf]at h9;rw[h9];exact hdl
       have hev:(a.put (some d') v).eval (.tmp d')=v:=by simp[Act.eval,Act.put,hdt]
       have zL:(execOp (a.put (some d') v).eval ⟨d2,.convert t' t' (.tmp d'),ty2,pos2,ed2,none⟩).run P (c.w.alloc (.cells cells' e))=.ok (.value v) ((c.w.alloc (.cells cells' e)).freeze ⟨c.w.heap.size,cells'.size,none⟩ 1):=by
        simp only[execOp,yBb];rw[hev,hmk];simp
       rw[zL];exact aBj hF hc rest 2 (by rw[hops];rfl) hs' (hX.next hs nx) nM h (λKT qQ e1 e2 e3 e4 e5=>hQ KT qQ e1 e2 (nx.trans e3) e4 (e5.trans (by cases d2<;>rfl)))
      .cases h
     .cases h
    .cases h
   .cases h
  .cases h
 .cases h
end
end
section
open Go.RowKit
section
variable{P:Program}{fr fr':Jk}
theorem C9:∀(xs:List Operand),(∀x∈xs,bH fr x=bH fr' x)->lK fr xs=lK fr' xs
 | [],_=>rfl
 |x::xs,h=>by
  unfold lK;rw[h x Ce,C9 xs λy hy=>h y Hg]
theorem T9:∀(xs:List (Nat×Operand)),(∀x∈xs.map (·.2),bH fr x=bH fr' x)->rH fr xs=rH fr' xs
 | [],_=>rfl
 |(i,x)::xs,h=>by
  unfold rH;rw[h x Ce,T9 xs λy hy=>h y (by simp only[yAV,yBl];exact .inr hy)]
theorem aBy(op:Op)(h:∀x∈op.operands,bH fr x=bH fr' x):eS P fr op=eS P fr' op:=by
 cases op<;>simp only[Op.operands]at h<;>simp only[eS]
 case move x=>exact h x Ce
 case assign x=>exact h x Ce
 case pick a b c=>rw[h a Ce,h b Ce,h c Ce]
 case binOp _ _ a b _=>rw[h a Ce,h b Ce]
 case unOp _ _ a=>rw[h a Ce]
 case convert _ _ a=>rw[h a Ce]
 case makeFunc fn first captured=>
  cases fn<;>simp only
  rw[C9 captured.toList λx hx=>h x (by simp only[Array.mem_append];exact .inr Fb),C9 first.toList λx hx=>h x (by simp only[Array.mem_append];exact .inl Fb)]
 case slice _ x lo hi mx=>
  have e:bH fr x=bH fr' x:=h x Ce;have e1:lo.map (bH fr)=lo.map (bH fr'):=by cases lo with|none=>rfl|some y=>simp only[yAC];rw[h y Ce]
  have e2:hi.map (bH fr)=hi.map (bH fr'):=by cases hi with|none=>rfl|some y=>simp only[yAC];rw[h y Ce]
  have e3:mx.map (bH fr)=mx.map (bH fr'):=by cases mx with|none=>rfl|some y=>simp only[yAC];rw[h y Ce]
  rw[e,e1,e2,e3]
 case fieldAddr _ a _=>rw[h a Ce]
 case field _ a _=>rw[h a Ce]
 case indexAddr _ a b=>rw[h a Ce,h b Ce]
 case index _ a b=>rw[h a Ce,h b Ce]
 case extract a _=>rw[h a Ce]
 case nilCheck a=>rw[h a Ce]
 case build _ ps=>rw[T9 ps.toList λx hx=>h x Fb]
 case call c=>
  obtain⟨callee,args,ts⟩:=c;cases callee<;>simp only
  rw[C9 args.toList λx hx=>h x Er]
theorem O0{fl:Nat}{σ:Jj}(hl:fr.length=fr'.length)(op:Op)(h:∀x∈op.operands,bH fr x=bH fr' x):dK P fl fr σ op=dK P fl fr' σ op:=by
 cases op<;>simp only[Op.operands]at h<;>simp only[dK]
 case load _ a=>rw[h a Ce]
 case store _ a b=>rw[h a Ce,h b Ce]
 case box _ a=>rw[h a Ce]
 case convert _ _ a=>rw[h a Ce]
 case makeSlice _ a b=>rw[h a Ce,h b Ce]
 case lookup _ a b _=>rw[h a Ce,h b Ce]
 case mapUpdate _ a b d=>rw[h a Ce,h b Ce,h d Ce]
 case makeMap _ r=>cases r<;>rfl
 case buildSlice _ _ ps=>rw[T9 ps.toList λx hx=>h x Fb]
 case call c=>
  obtain⟨callee,args,ts⟩:=c;cases callee<;>(try simp only)
  rename_i b;cases b<;>(try simp only)
  case append=>rw[C9 args.toList λx hx=>h x Er,hl]
  case copy=>rw[C9 args.toList λx hx=>h x Er]
  case clear=>rw[C9 args.toList λx hx=>h x Er]
theorem aH9(op:Op)(h:∀x∈op.operands,bH fr x=bH fr' x):iX fr op=iX fr' op:=by
 cases op<;>simp only[Op.operands]at h<;>simp only[iX]
 case call c=>
  obtain⟨callee,args,ts⟩:=c;cases callee<;>simp only
  rename_i g;rw[C9 args.toList λx hx=>h x (by simp[Call.operands];exact .inr (yCc.1 hx)),h g (by simp[Call.operands])]
theorem aBz{call:dB}{fl:Nat}{σ:Jj}(hl:fr.length=fr'.length)(op:Op)(h:∀x∈op.operands,bH fr x=bH fr' x):dE P call fl fr σ op=dE P call fl fr' σ op:=by
 unfold dE pop;rw[aH9 op h,aBy op h,O0 hl op h]
end
section
variable{c:Cx}{fl:Nat}
def Cx.oV(c:Cx)(w:World)(id:Nat)(v:Value):Cx:=
 { w:=w,ρ:=λi=>if i=id then v else c.ρ i,σ:=c.σ,D:=λi=>c.D i\/i=id,X:=c.X }
theorem oG{w:World}{v:Value}{id i:Nat}(h:¬c.D id)(hd:c.D i):(c.oV w id v).ρ i=c.ρ i:=by
 have:i≠id:=by rintro rfl;exact h hd
 simp[Cx.oV,this]
theorem C8{w:World}{v:Value}{id:Nat}:(c.oV w id v).ρ id=v:=by simp[Cx.oV]
theorem Nv.oV{w':World}{v:Value}{id:Nat}{p:PD}(hn:¬c.D id)(ho:c.σ[id]?=some (.box p))(h:c.w.grownBy w' none)(hv:∀b,bI v=some b->c.w.heap.size<=b):Nv c (c.oV w' id v) where
 cell:=λa u ha hu=>by
  have hlt:=BD hu;refine⟨⟨ha.1,λi o' hd ho'=>?_⟩,by show w'.cell? a=some u;rw[yCI (h.block a.block hlt Ce)];exact hu⟩;rcases hd with hd|rfl
  .rw[oG hn hd];exact ha.2 i o' hd ho'
  .rw[C8];have:o'=.box p:=by
    have:c.σ[i]?=some o':=ho';rw[ho]at this;simpa using this.symm
   subst this;intro b hb e;have:=hv b hb;omega
 bQ:=λ_ h=>.inl h
 tU:=λi p hd hp=>⟨oG hn hd,p,hp⟩
 oF:=λi hd hk=>⟨oG hn hd,hk⟩
 uZ:=λi e s n hd hk=>⟨n,hk,yAk _,λ_=>oG hn hd⟩
 u5:=λi e s v cs hd hk=>⟨v,cs,hk,yAk _,λ_=>oG hn hd⟩
theorem Sr.oV{w':World}{id b:Nat}{p:PD}{cs:Jn}{T:TypeId}(hs:Sr c)(hn:¬c.D id)(ho:c.σ[id]?=some (.box p))(h:c.w.grownBy w' none)(hb:c.w.heap.size<=b)
  (hw:w'.heap[b]?=some (.cells cs T (0,0))) (hv:aZ c cs.toList p.cells) (h1:(∀v∈cs.toList,v.oneCell'=true)/\∀t ds,p=.typed t ds->T=t):Sr (c.oV w' id (.pointer (some ⟨b,0,none⟩))):=by
 have nv:Nv c (c.oV w' id (.pointer (some ⟨b,0,none⟩))):=Nv.oV hn ho h (λb' hb'=>by simp[bI]at hb';omega);have hgh:Gh (c.oV w' id (.pointer (some ⟨b,0,none⟩))):=λg hh=>by
  obtain⟨⟨cs',T',fz,e1,e2⟩,e3⟩:=hs.kM.2 g hh;refine⟨⟨cs',T',fz,by show w'.heap[g]?=_;rw[h.block g (iF e1) Ce];exact e1,e2⟩,λi hd hb'=>?_⟩;rcases hd with hd|rfl
  .rw[oG hn hd]at hb';exact e3 i hd hb'
  .rw[C8]at hb';simp[bI]at hb';have:=iF e1;omega
 refine⟨?_,?_,?_,?_,?_,?_,?_,?_,?_,?_,hs.kM.1.oW nv,hgh⟩
 .intro i q hd hp;rcases hd with hd|rfl
  .obtain⟨b',cs',T',e1,e2,e3,e4⟩:=hs.box i q hd hp;exact⟨b',cs',T',(oG hn hd).trans e1,by show w'.heap[b']?=_;rw[h.block b' (iF e2) Ce];exact e2,e3.oW nv,e4⟩
  .have:q=p:=by
    have h':c.σ[i]?=some (.box q):=hp;rw[ho]at h';simpa using h'.symm
   subst this;exact⟨b,cs,T,C8,hw,hv.oW nv,h1⟩
 .intro i e size n hd hp;rcases hd with hd|rfl
  .obtain⟨xs,hx⟩:=hs.own i e size n hd hp;rw[oG hn hd];exact⟨xs,DA hx (λg hg=>h.block g (hs.lt i g hd hg) Ce)⟩
  .have h':c.σ[i]?=some (.own e size n):=hp;rw[ho]at h';simp at h'
 .intro i e size ver ds hd hp;rcases hd with hd|rfl
  .obtain⟨b',C,cur,e1,e2,e3,e4,e5,e6,e7,e8⟩:=hs.row i e size ver ds hd hp;exact⟨b',C,cur,(oG hn hd).trans e1,by show w'.heap[b']?=_;rw[h.block b' (iF e2) Ce];exact e2,e3,e4,e5,e6,e7.oW nv,e8⟩
  .have h':c.σ[i]?=some (.row e size ver ds):=hp;rw[ho]at h';simp at h'
 .intro i es hd hp;rcases hd with hd|rfl
  .obtain⟨b',ents,clock,e1,e2,e3,e4⟩:=hs.map i es hd hp;exact⟨b',ents,clock,(oG hn hd).trans e1,by show w'.heap[b']?=_;rw[h.block b' (iF e2) Ce];exact e2,e3.oW nv,e4.oW nv⟩
  .have h':c.σ[i]?=some (.map es):=hp;rw[ho]at h';simp at h'
 .intro i hd hm;rcases hd with hd|rfl
  .obtain⟨b',e1,e2⟩:=hs.mark i hd hm;exact⟨b',(oG hn hd).trans e1,by show w'.heap[b']?=_;rw[h.block b' (iF e2) Ce];exact e2⟩
  .have h':c.σ[i]?=some .mark:=hm;rw[ho]at h';simp at h'
 .intro i st fr ps asg bd hd hm;rcases hd with hd|rfl
  .obtain⟨b',r,e1,e2,e3,e4,e5,e6,e7⟩:=hs.loop i st fr ps asg bd hd hm;exact⟨b',r,(oG hn hd).trans e1,by show w'.heap[b']?=_;rw[h.block b' (iF e2) Ce];exact e2,e3,e4,e5,e6.oW nv,e7⟩
  .have h':c.σ[i]?=some (.loop st fr ps asg bd):=hm;rw[ho]at h';simp at h'
 .intro i j b' hd hd' hne hb1 hb2;rcases hd with hd|rfl
  .rw[oG hn hd]at hb1;rcases hd' with hd' | rfl
   .rw[oG hn hd']at hb2;exact hs.inj i j b' hd hd' hne hb1 hb2
   .rw[C8]at hb2;simp[bI]at hb2;have:=hs.lt i b' hd hb1;omega
  .rw[C8]at hb1;simp[bI]at hb1;rcases hd' with hd' | rfl
   .rw[oG hn hd']at hb2;have:=hs.lt j b' hd' hb2;omega
   .exact hne rfl
 .intro i b' hd hb1;rcases hd with hd|rfl
  .rw[oG hn hd]at hb1;exact yBS (hs.lt i b' hd hb1) h.size
  .rw[C8]at hb1;simp[bI]at hb1;subst hb1;exact iF hw
 .intro i hd;rcases hd with hd|rfl
  .exact hs.bQ i hd
  .exact(yA.1 ho).1
 .exact λa ha=>hs.fresh a (yAQ h.size ha)
theorem Nx.oV{c0:Cx}{w':World}{v:Value}{id:Nat}{p:PD}(n0:Nx fl c0 c)(hn:¬c.D id)(ho:c.σ[id]?=some (.box p))(h:c.w.grownBy w' none)(hv:∀b,bI v=some b->c.w.heap.size<=b)
  (hid:c0.σ.length<=id):Nx fl c0 (c.oV w' id v) where
 X:=n0.X
 os:=h.os.trans n0.os
 tape:=h.tape.trans n0.tape
 output:=h.output.trans n0.output
 size:=yAQ n0.size h.size
 len:=n0.len
 cell:=λa u ha hu=>let ⟨q1,q2⟩:=n0.cell a u ha hu;(Nv.oV hn ho h hv).cell a u q1 q2
 bQ:=λi hd=>.inl (n0.bQ i hd)
 new:=λi hd=>by rcases hd with hd|rfl;exact n0.new i hd;exact .inr hid
 tU:=λi q hd hq=>by
  obtain⟨e,q',dN⟩:=n0.tU i q hd hq;exact⟨(oG hn (n0.bQ i hd)).trans e,q',dN⟩
 oF:=λi hd hk=>by
  obtain⟨e,hk'⟩:=n0.oF i hd hk;exact⟨(oG hn (n0.bQ i hd)).trans e,hk'⟩
 uZ:=λi e s n hd hk=>by
  obtain⟨n',h1,h2,h3⟩:=n0.uZ i e s n hd hk;exact⟨n',h1,h2,λhh=>(oG hn (n0.bQ i hd)).trans (h3 hh)⟩
 u5:=λi e s v cs hd hk=>by
  obtain⟨v0,cs0,h1,h2,h3⟩:=n0.u5 i e s v cs hd hk;exact⟨v0,cs0,h1,h2,λhh=>(oG hn (n0.bQ i hd)).trans (h3 hh)⟩
 back:=λi b hd hb hlt=>by
  rcases hd with hd|rfl
  .rw[oG hn hd]at hb;exact n0.back i b hd hb hlt
  .rw[C8]at hb;have:=hv b hb;have:=n0.size;omega
 frame:=λk hk hx=>(h.block k (yBS hk n0.size) Ce).trans (n0.frame k hk hx)
 ro:=n0.ro
 hole:=n0.hole
def Cx.ahead(c:Cx)(l:List aA):Cx:={ c with σ:=c.σ++l }
theorem u6{l:Jj}{id:Nat}(h:id<c.σ.length):(c.ahead l).σ[id]?=c.σ[id]?:=by simp[Cx.ahead,yAg h]
theorem Nx.ahead(hs:Sr c)(l:List aA):Nx fl c (c.ahead l) where
 X:=rfl
 os:=rfl
 tape:=rfl
 output:=rfl
 size:=yAk _
 len:=by simp[Cx.ahead]
 cell:=λa v ha hv=>⟨⟨ha.1,λid o hd ho=>ha.2 id o hd (by rw[u6 (hs.bQ id hd)]at ho;exact ho)⟩,hv⟩
 bQ:=λ_ h=>h
 new:=λ_ h=>.inl h
 tU:=λid p hd h=>⟨rfl,p,Hj⟩
 oF:=λid hd h=>⟨rfl,Hj⟩
 uZ:=λid e s n hd h=>⟨n,Hj,yAk _,λ_=>rfl⟩
 u5:=λid e s v cs hd h=>⟨v,cs,by rw[u6 (hs.bQ id hd)]at h;exact h,yAk _,λ_=>rfl⟩
 back:=λ_ _ h h' _=>⟨h,h'⟩
 frame:=λ_ _ _=>rfl
 ro:=λid _ h=>u6 h
 hole:=λid h _=>u6 h
theorem Sr.ahead(hs:Sr c)(l:List aA):Sr (c.ahead l) where
 box:=λid p hd hp=>by
  rw[u6 (hs.bQ id hd)]at hp;obtain⟨b,cs,T,e1,e2,e3,e4⟩:=hs.box id p hd hp;exact⟨b,cs,T,e1,e2,e3.mono (Nx.ahead (fl:=0) hs l),e4⟩
 own:=λid e size n hd ho=>by rw[u6 (hs.bQ id hd)]at ho;exact hs.own id e size n hd ho
 row:=λid e size ver ds hd ho=>by
  rw[u6 (hs.bQ id hd)]at ho;obtain⟨b,C,cur,e1,e2,e3,e4,e5,e6,e7,e8⟩:=hs.row id e size ver ds hd ho;exact⟨b,C,cur,e1,e2,e3,e4,e5,e6,e7.mono (Nx.ahead (fl:=0) hs l),e8⟩
 map:=λid es hd ho=>by
  rw[u6 (hs.bQ id hd)]at ho;obtain⟨b,ents,clock,e1,e2,e3,e4⟩:=hs.map id es hd ho;exact⟨b,ents,clock,e1,e2,e3.mono (Nx.ahead (fl:=0) hs l),e4.mono (Nx.ahead (fl:=0) hs l)⟩
 mark:=λid hd hm=>by rw[u6 (hs.bQ id hd)]at hm;exact hs.mark id hd hm
 loop:=λid st fr ps asg bd hd hl=>by
  rw[u6 (hs.bQ id hd)]at hl;obtain⟨b,r,e1,e2,e3,e4,e5,e6,e7⟩:=hs.loop id st fr ps asg bd hd hl;exact⟨b,r,e1,e2,e3,e4,e5,e6.mono (Nx.ahead (fl:=0) hs l),e7⟩
 inj:=hs.inj
 lt:=hs.lt
 bQ:=λid hd=>by have:=hs.bQ id hd;simp[Cx.ahead];omega
 fresh:=hs.fresh
 kM:=hs.kM.mono (Nx.ahead (fl:=0) hs l)
end
end
section
open Go.RowKit
theorem aH8{acc:List Nat}{o:Oper}{k:Nat}(h:(zF acc o).testBit k=true) :
  ∃e∈o.after,Region.binds .any e=true/\(e.on=k\/(acc.getD e.on 0).testBit k=true):=by
 have key:∀(l:List Edge) (s:Nat),(l.foldl (λs e=>if Region.binds .any e then s ||| 2^e.on ||| acc.getD e.on 0 else s) s).testBit k=true ->
   s.testBit k=true\/∃e∈l,Region.binds .any e=true/\(e.on=k\/(acc.getD e.on 0).testBit k=true):=by
  intro l
  induction l with
  |nil=>intro s h;exact .inl h
  |cons e l ih=>
   intro s h;simp only[yDp]at h;rcases ih _ h with h1 | ⟨e',h2,h3⟩
   .split at h1
    .rename_i hb;simp only[Nat.testBit_or,Nat.testBit_two_pow,yBv,yCa]at h1;rcases h1 with(h1|h1)|h1
     .exact .inl h1
     .exact .inr ⟨e,Ce,hb,.inl h1⟩
     .exact .inr ⟨e,Ce,hb,.inr h1⟩
    .exact .inl h1
   .exact .inr ⟨e',by simp[h2],h3⟩
 rcases key _ _ h with h1 | ⟨e,h2,h3⟩
 .simp at h1
 .exact⟨e,yCc.1 h2,h3⟩
theorem T6:∀(l:List Oper) (acc:List Nat),(cY l acc).take acc.length=acc
 | [],acc=>by simp[cY]
 |o::r,acc=>by
  have:=T6 r (acc++[zF acc o]);simp only[cY];have h2:acc.length<=(acc++[zF acc o]).length:=Ce;have h3:=yAL (List.take acc.length) this;rw[yCp,yBR h2]at h3;rw[h3];simp
theorem aBH:∀(l:List Oper) (acc:List Nat) (i:Nat),(cY l acc)[acc.length+i]?=(l[i]?).map λo=>zF ((cY l acc).take (acc.length+i)) o
 | [],acc,i=>by simp[cY]
 |o::r,acc,0=>by
  have h1:=T6 (o::r) acc;have h2:=T6 r (acc++[zF acc o]);simp only[yBk,h1,yBi,yAC];have h3:(cY (o::r) acc)[acc.length]?=((cY r (acc++[zF acc o])).take (acc++[zF acc o]).length)[acc.length]?:=by
   rw[yAv,yAJ Ce];rfl
  rw[h3,h2];simp
 |o::r,acc,i+1=>by
  have:=aBH r (acc++[zF acc o]) i;simp only[yAa,yDc]at this;simp only[cY,yBB];rw[show acc.length+(i+1)=acc.length+1+i by omega];exact this
section
variable{ops:Jo}
theorem T7{i k:Nat}(h:((cY ops.toList []).getD i 0).testBit k=true) :
  ∃o,ops[i]?=some o/\∃e∈o.after,Region.binds .any e=true/\(e.on=k\/(((cY ops.toList []).take i).getD e.on 0).testBit k=true):=by
 have h1:=aBH ops.toList [] i;simp only[yAO,yAp,yCH]at h1;rw[yAA,h1]at h;cases ho:ops[i]? with
 |none=>rw[ho]at h;simp at h
 |some o=>
  rw[ho]at h;simp only[yAC,yDn]at h;exact⟨o,rfl,aH8 h⟩
theorem T8{l:List Nat}{i j:Nat}(h:j<i):(l.take i).getD j 0=l.getD j 0:=by
 simp[yAA,h]
structure sE (ops:Array Oper) (ms:List Nat):Prop where
 aUN:Region.noSelect ops=true
 shape:∀(i:Nat) (o:Oper),ops[i]?=some o->(fH o.op||eN o.op||dF o.op||mN o.op||eV o.op)=true
 once:∀(i:Nat) (o:Oper) (j:Nat) (oj:Oper) (d:Tmp),ops[i]?=some o->ops[j]?=some oj->j≠i->oj.dst=some d->o.dst≠some d
 looks:∀(i:Nat) (o:Oper) (j:Nat) (oj:Oper) (d:Tmp),ops[i]?=some o->ops[j]?=some oj->j≠i->oj.dst=some d->d∈o.looksAt ops ->
  (j<i->∃e∈o.after,Region.binds .any e=true/\e.on=j)/\(i<j->∃e∈oj.after,Region.binds .any e=true/\e.on=i)
 down:∀(i:Nat) (o:Oper),ops[i]?=some o->∀e∈o.after,Region.binds .any e=true->e.on<i
 ord:∀(i:Nat) (o:Oper) (j:Nat) (oj:Oper),ops[i]?=some o->ops[j]?=some oj->eV o.op=true->eV oj.op=true->j<i->(ms.getD i 0).testBit j=true
theorem O1{f:Op->Bool}{i:Nat}{o:Oper}(h:ops[i]?=some o):eU f ops.toList i=f o.op:=by
 simp[eU,h]
theorem qS{i:Nat}{o:Oper}(h:ops[i]?=some o):i<ops.size:=(yDE.1 h).1
theorem A1{ms:List Nat}(h:wL ops ms=true):sE ops ms:=by
 simp only[wL,yAr,yAn,yAR]at h;obtain⟨h0,h⟩:=h;have at':∀(i:Nat) (o:Oper),ops[i]?=some o->_:=λi o ho=>by
  have:=h i (qS ho);simp only[ho,yAr]at this;exact this
 have ssa:∀(i:Nat) (o:Oper) (j:Nat) (oj:Oper) (d:Tmp),ops[i]?=some o->ops[j]?=some oj->j≠i->oj.dst=some d->_:=λi o j oj d ho hoj hne hd=>by
  have:=(at' i o ho).1.1.2;simp only[aBI,yAn,yAR]at this;have:=this j (qS hoj);simp only[hoj,hd,yBv,yCf,hne,false_or,yAr]at this;exact this
 refine⟨h0,λi o ho=>(at' i o ho).1.1.1,?_,?_,?_,?_⟩
 .intro i o j oj d ho hoj hne hd;simpa using(ssa i o j oj d ho hoj hne hd).1
 .intro i o j oj d ho hoj hne hd hl;have:=(ssa i o j oj d ho hoj hne hd).2;simp only[yBw,List.contains_eq_mem,yDX,hl,yBK,false_or]at this;refine⟨λhlt=>?_,λhlt=>?_⟩
  .rw[yAJ hlt]at this;exact ri
  .rw[yAI Cd]at this;exact ri
 .intro i o ho e he hb;have:=Array.all_eq_true'.1 (at' i o ho).1.2 e he;simpa [hb]using this
 .intro i o j oj ho hoj hw hwj hlt;have:=(at' i o ho).2;simp only[hw,yBP,yBZ,yAn,yAR]at this;have:=this j hlt;rw[O1 hoj,hwj]at this;exact cv
def Lt(listed:Array Bool)(i:Nat):Prop:=listed[i]?=some true
def O2(ops:Array Oper)(S:Nat->Prop):Prop:=∀(i:Nat) (o:Oper),S i->ops[i]?=some o->∀e∈o.after,Region.binds .any e=true->S e.on
theorem aBB(hr:∀(i:Nat) (o:Oper),ops[i]?=some o->∀e∈o.after,Region.binds .any e=true->e.on<i):∀(i k:Nat),((cY ops.toList []).getD i 0).testBit k=true->k<i:=by
 intro i
 induction i using Nat.strongRecOn with
 |_ i ih=>
  intro k h;obtain⟨o,ho,e,he,hb,h⟩:=T7 h;have hlt:=hr i o ho e he hb;rcases h with rfl|h
  .exact hlt
  .rw[T8 hlt]at h;exact Nat.lt_trans (ih _ hlt _ h) hlt
theorem aBC(hr:∀(i:Nat) (o:Oper),ops[i]?=some o->∀e∈o.after,Region.binds .any e=true->e.on<i){S:Nat->Prop}(hS:O2 ops S):∀(i k:Nat),S i->((cY ops.toList []).getD i 0).testBit k=true->S k:=by
 intro i
 induction i using Nat.strongRecOn with
 |_ i ih=>
  intro k hi h;obtain⟨o,ho,e,he,hb,h⟩:=T7 h;have hlt:=hr i o ho e he hb;have hs:=hS i o hi ho e he hb;rcases h with rfl|h
  .exact hs
  .rw[T8 hlt]at h;exact ih _ hlt _ hs h
theorem aBv(hr:∀(i:Nat) (o:Oper),ops[i]?=some o->∀e∈o.after,Region.binds .any e=true->e.on<i){S:Nat->Prop}(hS:O2 ops S){i k:Nat}{o:Oper}(ho:ops[i]?=some o)
  (hi:∀e∈o.after,Region.binds .any e=true->S e.on) (h:((cY ops.toList []).getD i 0).testBit k=true):S k:=by
 obtain⟨o',ho',e,he,hb,h⟩:=T7 h;rw[ho]at ho';simp only[yAb]at ho';subst ho';have hlt:=hr i o ho e he hb;rcases h with rfl|h
 .exact hi e he hb
 .rw[T8 hlt]at h;exact aBC hr hS _ _ (hi e he hb) h
structure qT (ops:Array Oper) (ps:Nat->PD) (kU:List PD) (S:Nat->Prop) (fr:List PD):Prop where
 len:fr.length=kU.length
 slot:∀x,(∃(j:Nat) (o:Oper),ops[j]?=some o/\S j/\o.dst=some x/\(x<kU.length->fr[x]?=some (ps j)))\/((∀(j:Nat) (o:Oper),ops[j]?=some o->S j->o.dst≠some x)/\fr[x]?=kU[x]?)
variable{ps:Nat->PD}{kU fr fr':Jk}{S T:Nat->Prop}
theorem qT.start(h:∀j,¬S j):qT ops ps kU S kU:=⟨rfl,λ_=>.inr ⟨λj _ _ hj=>absurd hj (h j),rfl⟩⟩
theorem qT.congr(h:qT ops ps kU S fr)(hST:∀j,S j↔T j):qT ops ps kU T fr:=
 ⟨h.len,λx=>(h.slot x).imp (λ⟨j,o,a,b,r⟩=>⟨j,o,a,(hST j).1 b,r⟩) (λ⟨a,b⟩=>⟨λj o ho hj=>a j o ho ((hST j).2 hj),b⟩)⟩
theorem qT.put{ms:List Nat}(hr:sE ops ms)(h:qT ops ps kU S fr){i:Nat}{o:Oper}(ho:ops[i]?=some o):qT ops ps kU (λj=>S j\/j=i) (bG fr o.dst (ps i)):=by
 cases hd:o.dst with
 |none=>
  refine⟨h.len,λx=>(h.slot x).imp (λ⟨j,o',a,b,r⟩=>⟨j,o',a,.inl b,r⟩) (λ⟨a,b⟩=>⟨λj o' ho' hj=>?_,b⟩)⟩;rcases hj with hj|rfl
  .exact a j o' ho' hj
  .rw[ho]at ho';simp only[yAb]at ho';subst ho';rw[hd];simp
 |some d=>
  refine⟨by simpa [bG]using h.len,λx=>?_⟩
  by_cases e:x=d
  .subst e;exact .inl ⟨i,o,ho,.inr rfl,hd,λhx=>by simp[bG,yCZ,h.len,hx]⟩
  .have hne:(bG fr (some d) (ps i))[x]?=fr[x]?:=by simp[bG,yAd (yAU e)]
   rw[hne];refine(h.slot x).imp (λ⟨j,o',a,b,r⟩=>⟨j,o',a,.inl b,r⟩) (λ⟨a,b⟩=>⟨λj o' ho' hj=>?_,b⟩);rcases hj with hj|rfl
   .exact a j o' ho' hj
   .rw[ho]at ho';simp only[yAb]at ho';subst ho';rw[hd];simpa using yAU e
theorem qT.agree{ms:List Nat}(hr:sE ops ms)(h:qT ops ps kU S fr)(h':qT ops ps kU T fr'){x:Nat}(hx:∀(j:Nat) (o:Oper),ops[j]?=some o->o.dst=some x->(S j↔T j)):fr[x]?=fr'[x]?:=by
 rcases h.slot x with⟨j,o,ho,hj,hd,hv⟩ | ⟨hno,hv⟩
 .rcases h'.slot x with⟨j',o',ho',hj',hd',sF⟩ | ⟨aBJ,sF⟩
  .have:j'=j:=by
    rcases Nat.decEq j' j with hne|heq
    .exact absurd hd (hr.once j o j' o' x ho ho' hne hd')
    .exact heq
   subst this;rcases yCg x kU.length with hlt|hge
   .rw[hv hlt,sF hlt]
   .rw[yBy (by rw[h.len];exact hge),yBy (by rw[h'.len];exact hge)]
  .exact absurd hd (aBJ j o ho ((hx j o ho hd).1 hj))
 .rcases h'.slot x with⟨j',o',ho',hj',hd',sF⟩ | ⟨aBJ,sF⟩
  .exact absurd hd' (hno j' o' ho' ((hx j' o' ho' hd').2 hj'))
  .rw[hv,sF]
theorem qT.same{ms:List Nat}(hr:sE ops ms)(h:qT ops ps kU S fr)(h':qT ops ps kU T fr')(hx:∀(j:Nat) (o:Oper),ops[j]?=some o->(S j↔T j)):fr=fr':=
 yCo λ_=>h.agree hr h' λj o ho _=>hx j o ho
def iP(ops:List Oper)(i:Nat):Nat:=((ops.take i).filter λo=>dF o.op).length
theorem O4{l:List Oper}{i:Nat}{o:Oper}(h:l[i]?=some o):iP l (i+1)=iP l i+if dF o.op then 1 else 0:=by
 unfold iP;rw[List.take_add_one,h];simp only[Option.toList_some,List.filter_append,yAa]
 congr 1
 by_cases hs:dF o.op=true<;>simp[hs]
theorem aBK{l:List Oper}{i j:Nat}(h:i<=j):iP l i<=iP l j:=by
 unfold iP;have:l.take i=(l.take j).take i:=by rw[yCp,yBR h]
 rw[this];exact((List.take_sublist i (l.take j)).filter _).length_le
theorem aHY{l:List Oper}{i j:Nat}{o oj:Oper}(hi:l[i]?=some o)(hj:l[j]?=some oj)(hs:dF o.op=true)(hsj:dF oj.op=true)(hne:i≠j):iP l i≠iP l j:=by
 rcases Nat.lt_or_gt_of_ne hne with h|h
 .have:=aBK (l:=l) (Nat.succ_le_of_lt h);rw[Nat.succ_eq_add_one,O4 hi,yAJ hs]at this;omega
 .have:=aBK (l:=l) (Nat.succ_le_of_lt h);rw[Nat.succ_eq_add_one,O4 hj,yAJ hsj]at this;omega
theorem T4{P:Program}:∀ {l:List Oper} {hs:Jj},mO P l=some hs->∀(i:Nat) (o:Oper) (t:TypeId),l[i]?=some o->o.op=.alloc t ->
  ∃z,fQ P t=some z/\z.cells.all PD.plain=true/\hs[iP l i]?=some (.box (boxed t z))
 | [],hs,h,i,o,t,hi,_=>by simp at hi
 |o'::r,hs,h,0,o,t,hi,ht=>by
  simp only[yBi,yAb]at hi;subst hi;unfold mO at h;rw[ht]at h;simp only at h;split at h
  .rename_i p l hp hl;split at h
   .rename_i hpl;simp only[yAb]at h;subst h;exact⟨p,hp,hpl,by simp[iP]⟩
   .exact ak
  .exact ak
 |o'::r,hs,h,i+1,o,t,hi,ht=>by
  simp only[yBB]at hi;unfold mO at h;split at h
  .rename_i t' ht';split at h
   .rename_i p l hp hl;split at h
    .rename_i hpl;simp only[yAb]at h;subst h;obtain⟨z,h1,h2,h3⟩:=T4 hl i o t hi ht;refine⟨z,h1,h2,?_⟩;have:iP (o'::r) (i+1)=iP r i+1:=by simp[iP,ht',dF]
     rw[this,yBB];exact h3
    .exact ak
   .exact ak
  .rename_i hne;obtain⟨z,h1,h2,h3⟩:=T4 h i o t hi ht;refine⟨z,h1,h2,?_⟩;have hna:dF o'.op=false:=by
    cases ho:o'.op<;>first|rfl|exact absurd ho (hne _)
   have:iP (o'::r) (i+1)=iP r i:=by simp[iP,hna]
   rw[this];exact h3
structure KS (P:Program) (call:dB) (fl:Nat) (ops:Array Oper) (ms:List Nat) (k0:Nat) (frs:Nat->List PD) (σs:Nat->List aA) (ps:Nat->PD) (ft:Nat->Option Nat) (z:Nat->Bool) (i:Nat) (o:Oper):Prop where
 put:frs (i+1)=bG (frs i) o.dst (ps i)
 run:Region.wanted o (cK ops (frs i))=true->iE P call fl (z i) (k0+iP ops.toList i) (frs i) (σs i) o.op=some (ps i,σs (i+1))/\ft i=kV (frs i) o.op
 skip:Region.wanted o (cK ops (frs i))=false->ps i=.aH []/\σs (i+1)=σs i
theorem aH2{P:Program}{call:dB}{fl k0:Nat}{ms:List Nat}:∀(l:List Oper) (i k:Nat) (fr:List PD) (σ:List aA) (tr:List TE) (fr':List PD) (σ':List aA),ops.toList.drop i=l->k=k0+iP ops.toList i ->
  fI P call fl ops ms i k l fr σ=some (tr,fr',σ')->∃(frs:Nat->List PD) (σs:Nat->List aA) (ps:Nat->PD) (ft:Nat->Option Nat),frs i=fr/\σs i=σ/\frs (i+l.length)=fr'/\σs (i+l.length)=σ' /\
   (∀(j:Nat) (o:Oper),i<=j->ops[j]?=some o->KS P call fl ops ms k0 frs σs ps ft (λi=>kP ops.toList ms i) j o)/\(∀j,i<=j->j<i+l.length->ft j=(tr[j-i]?).bind TE.jX):=by
 intro l
 induction l with
 |nil=>
  intro i k fr σ tr fr' σ' hdrop hk h;simp only[fI,yAb,yAc]at h;obtain⟨rfl,rfl,rfl⟩:=h;refine⟨λ_=>fr,λ_=>σ,λ_=>default,λ_=>none,rfl,rfl,rfl,rfl,λj o hj ho=>?_,λj h1 h2=>absurd h2 Co⟩;exact tj
 |cons o rest ih=>
  intro i k fr σ tr fr' σ' hdrop hk h;have ho:ops[i]?=some o:=by
   exact Am
  have zJ:ops.toList.drop (i+1)=rest:=by rw[<-yBE,hdrop];rfl
  have hk':(if dF o.op then k+1 else k)=k0+iP ops.toList (i+1):=by
   rw[O4 Fc,hk];split<;>omega
  simp only[fI]at h;have lift:∀(p:PD) (σ1:List aA) (jX:Option Nat) (qU:List TE),fI P call fl ops ms (i+1) (if dF o.op then k+1 else k) rest (bG fr o.dst p) σ1=some (qU,fr',σ') ->
    tr=⟨fr,σ,p,jX⟩::qU->(Region.wanted o (cK ops fr)=true->iE P call fl (kP ops.toList ms i) (k0+iP ops.toList i) fr σ o.op=some (p,σ1)/\jX=kV fr o.op) ->
    (Region.wanted o (cK ops fr)=false->p=.aH []/\σ1=σ)->∃(frs:Nat->List PD) (σs:Nat->List aA) (ps:Nat->PD) (ft:Nat->Option Nat),frs i=fr/\σs i=σ/\frs (i+(o::rest).length)=fr'/\σs (i+(o::rest).length)=σ' /\
   (∀(j:Nat) (o:Oper),i<=j->ops[j]?=some o->KS P call fl ops ms k0 frs σs ps ft (λi=>kP ops.toList ms i) j o)/\(∀j,i<=j->j<i+(o::rest).length->ft j=(tr[j-i]?).bind TE.jX):=by
   intro p σ1 jX qU h1 htr hrun hskip;obtain⟨frs,σs,ps,ft,e1,e2,e3,e4,h5,h6⟩:=ih (i+1) _ _ _ _ _ _ zJ hk' h1;refine⟨λj=>if j=i then fr else frs j,λj=>if j=i then σ else σs j,λj=>if j=i then p else ps j,λj=>if j=i then jX else ft j,Ce,Ce,?_,?_,?_,?_⟩
   .exact nt
   .exact nu
   .intro j oj hj hoj
    by_cases e:j=i
    .exact gr
    .have h7:=h5 j oj Cd hoj;have hne:j+1≠i:=Cd;refine⟨?_,?_,?_⟩
     .simp only[yAI e,yAI hne];exact h7.put
     .simp only[yAI e,yAI hne];exact h7.run
     .simp only[yAI e,yAI hne];exact h7.skip
   .exact kj
  exact zo
theorem aH3{P:Program}{call:dB}{fl k0:Nat}{ms:List Nat}:∀(l:List Oper) (i k:Nat) (fr:List PD) (σ:List aA) (tr:List TE) (fr':List PD) (σ':List aA),ops.toList.drop i=l->k=k0+iP ops.toList i ->
  qA P call fl ops i k l fr σ=some (tr,fr',σ')->∃(frs:Nat->List PD) (σs:Nat->List aA) (ps:Nat->PD) (ft:Nat->Option Nat),frs i=fr/\σs i=σ/\frs (i+l.length)=fr'/\σs (i+l.length)=σ' /\
   (∀(j:Nat) (o:Oper),i<=j->ops[j]?=some o->KS P call fl ops ms k0 frs σs ps ft (λ_=>true) j o)/\(∀j,i<=j->j<i+l.length->ft j=(tr[j-i]?).bind TE.jX)/\(∀j,i<=j->σs j=TE.at tr σ' (j-i)):=by
 intro l
 induction l with
 |nil=>
  intro i k fr σ tr fr' σ' hdrop hk h;simp only[qA,yAb,yAc]at h;obtain⟨rfl,rfl,rfl⟩:=h;refine⟨λ_=>fr,λ_=>σ,λ_=>default,λ_=>none,rfl,rfl,rfl,rfl,λj o hj ho=>?_,λj h1 h2=>absurd h2 Co,λj _=>by simp[TE.at]⟩;exact tj
 |cons o rest ih=>
  intro i k fr σ tr fr' σ' hdrop hk h;have ho:ops[i]?=some o:=by
   exact Am
  have zJ:ops.toList.drop (i+1)=rest:=by rw[<-yBE,hdrop];rfl
  have hk':(if dF o.op then k+1 else k)=k0+iP ops.toList (i+1):=by
   rw[O4 Fc,hk];split<;>omega
  simp only[qA]at h;have lift:∀(p:PD) (σ1:List aA) (jX:Option Nat) (qU:List TE),qA P call fl ops (i+1) (if dF o.op then k+1 else k) rest (bG fr o.dst p) σ1=some (qU,fr',σ') ->
    tr=⟨fr,σ,p,jX⟩::qU->(Region.wanted o (cK ops fr)=true->iE P call fl (true) (k0+iP ops.toList i) fr σ o.op=some (p,σ1)/\jX=kV fr o.op) ->
    (Region.wanted o (cK ops fr)=false->p=.aH []/\σ1=σ)->∃(frs:Nat->List PD) (σs:Nat->List aA) (ps:Nat->PD) (ft:Nat->Option Nat),frs i=fr/\σs i=σ/\frs (i+(o::rest).length)=fr'/\σs (i+(o::rest).length)=σ' /\
   (∀(j:Nat) (o:Oper),i<=j->ops[j]?=some o->KS P call fl ops ms k0 frs σs ps ft (λ_=>true) j o)/\(∀j,i<=j->j<i+(o::rest).length->ft j=(tr[j-i]?).bind TE.jX)/\(∀j,i<=j->σs j=TE.at tr σ' (j-i)):=by
   intro p σ1 jX qU h1 htr hrun hskip;obtain⟨frs,σs,ps,ft,e1,e2,e3,e4,h5,h6,h7⟩:=ih (i+1) _ _ _ _ _ _ zJ hk' h1;refine⟨λj=>if j=i then fr else frs j,λj=>if j=i then σ else σs j,λj=>if j=i then p else ps j,λj=>if j=i then jX else ft j,Ce,Ce,?_,?_,?_,?_,?_⟩
   .exact nt
   .exact nu
   .intro j oj hj hoj
    by_cases e:j=i
    .exact gr
    .have h8:=h5 j oj Cd hoj;have hne:j+1≠i:=Cd;refine⟨?_,?_,?_⟩
     .simp only[yAI e,yAI hne];exact h8.put
     .simp only[yAI e,yAI hne];exact h8.run
     .simp only[yAI e,yAI hne];exact h8.skip
   .exact kj
   .intro j hj
    by_cases e:j=i
    .subst e;simp[htr,TE.at]
    .simp only[yAI e];rw[h7 j Cd,htr,show j-i=(j-(i+1))+1 by omega];simp[TE.at]
  exact zo
end
end
section
open Go.RowKit
section
variable{P:Program}{call:dB}{fl k:Nat}{free:Bool}{fr:Jk}{σ σ':Jj}{op:Op}{p:PD}
theorem KG(h:eN op=true\/mN op=true\/gA op=true):eS P fr op=none/\iX fr op=none/\fH op=false/\dF op=false/\eC op=false:=by
 by_cases hc:∃s d x,op=.convert s d x
 .obtain⟨s,d,x,rfl⟩:=hc;have ht:E8 s d=true:=by rcases h with h|h|h<;>first|exact h|cases h
  exact⟨by simp only[eS,ht,yAK],rfl,by simp only[fH,ht,yBP],rfl,rfl⟩
 cases op<;>simp[eN,mN,gA]at h hc<;>simp[eS,iX,fH,dF,eC]
theorem aBg(h:fH op=true):iX fr op=none/\dF op=false/\eV op=false/\eN op=false:=by
 by_cases hc:∃s d x,op=.convert s d x
 .obtain⟨s,d,x,rfl⟩:=hc;have ht:E8 s d=false:=by simpa only[fH,yBw]using h
  exact⟨rfl,rfl,rfl,ht⟩
 cases op<;>simp[fH]at h hc<;>simp[iX,dF,eV,gA,eC,eN]
 rename_i c;obtain⟨callee,args,ts⟩:=c;cases callee<;>simp at h ⊢
 rename_i b;cases b<;>simp at h ⊢
theorem aH5(h:eC op=true):fH op=false/\dF op=false/\eN op=false/\gA op=false:=by
 cases op<;>simp[eC]at h<;>simp[fH,dF,eN,gA]
 rename_i c;obtain⟨callee,args,ts⟩:=c;cases callee with
 |value f=>rfl
 |invoke r m=>simp at h
 |builtin b=>cases b<;>simp at h ⊢
theorem aHW(h:dF op=true):fH op=false/\eV op=false/\eN op=false/\∃t,op=.alloc t:=by
 cases op<;>simp[dF]at h<;>simp[fH,eV,gA,eC,eN]
theorem pmake_sure{t e:TypeId}{n:Nat}(hn:n≠0)(ht:T5 t=false):uU P σ t e n n=(uU P [] t e n n).map λr=>(r.1,σ):=by
 unfold uU;cases P.info? e<;>cases cT P e<;>cases fQ P e<;>simp only[yDH]
 split
 .simp only[hn,false_and,yAN,yAK,ht,yAx,yAC]
 .rfl
theorem pmem_make{t:TypeId}{a b:Operand}(h:mkSure t a b=true):∃q:Option PD,∀(fl:Nat) (fr:List PD) (σ:List aA),dK P fl fr σ (.makeSlice t a b)=q.map λp=>(p,σ):=by
 unfold mkSure at h;split at h
 .rename_i l _ k;simp only[yAr,yCa,yBw]at h;obtain⟨⟨rfl,hl⟩,ht⟩:=h;have h0:0<=l:=Cd;have hn:l.toNat≠0:=Cd;cases hu:P.underlying t with
  |none=>exact⟨none,λfl fr σ=>by simp only[dK,hu];rfl⟩
  |some d=>
   cases d with
   |slice e=>
    refine⟨(uU P [] t e l.toNat l.toNat).map (·.1),λfl fr σ=>?_⟩;have hv:∀k,gL (bH fr (.const (.int k l)))=some l.toNat:=λk=>by
     show(if 0<=l then some l.toNat else none)=_
     rw[yAJ h0]
    simp only[dK,hu,hv];rw[pmake_sure hn ht,Option.map_map];rfl
   |_=>exact⟨none,λfl fr σ=>by simp only[dK,hu];rfl⟩
 .cases h
theorem aH6(hl:eN op=true\/mN op=true)(h:dK P fl fr σ op=some (p,σ')):σ'=σ:=by
 by_cases hc:∃s d x,op=.convert s d x
 .obtain⟨s,d,x,rfl⟩:=hc;simp only[dK]at h
  repeat' split at h
  all_goals first
   |(simp only[yAb,yAc]at h;exact h.2.symm)
   |(cases h;done)
 cases op<;>simp[eN,mN]at hl hc
 .exact AR
 .exact AR
 .rename_i t x y;obtain⟨q,hq⟩:=pmem_make (P:=P) hl;rw[hq]at h;cases q with
  |none=>cases h
  |some q=>simp only[yAC,yAb,yAc]at h;exact h.2.symm
theorem aH7(hl:gA op=true)(h:dK P fl fr σ op=some (p,σ')):∃id o,kV fr op=some id/\σ'=σ.set id o:=by
 cases op<;>simp[gA]at hl
 rename_i t x y;simp only[dK]at h;split at h
 .rename_i a q h1 h2;split at h
  .rename_i s hs;simp only[yAb,yAc]at h;obtain⟨rfl,rfl⟩:=h;unfold rE at hs;split at hs
   .rename_i id off;split at hs
    .exact jr
    .simp at hs
   .rename_i id ver off;exact jr
   .simp at hs
  .exact ak
 .exact ak
theorem aBG(hs:(fH op||eN op||dF op||mN op||eV op)=true)(hw:eV op=false)(h:iE P call fl free k fr σ op=some (p,σ')):σ'=σ:=by
 unfold iE at h;split at h
 .split at h
  .exact qe
  .exact ak
 .rename_i hA;split at h
  .exact qe
  .rename_i hB;have hm:eC op=false:=by simp[eV]at hw;exact hw.2
   rw[hm]at h;simp only[yAY,yAx,yAN]at h;refine aH6 ?_ h;simp[hw,yCw]at hs hA hB;rw[hA,hB]at hs;simpa using hs
end
section
variable{P:Program}{call:dB}{fl k0:Nat}{ops:Jo}{ms:List Nat}{frs:Nat->Jk}{σs:Nat->Jj}{ps:Nat->PD}{ft:Nat->Option Nat}{z:Nat->Bool}
def qR(P:Program)(call:dB)(fl:Nat)(ops:Array Oper)(ms:List Nat)(k0:Nat)(frs:Nat->List PD)(σs:Nat->List aA)(ps:Nat->PD)(ft:Nat->Option Nat)(z:Nat->Bool):Prop:=
 ∀(i:Nat) (o:Oper),ops[i]?=some o->KS P call fl ops ms k0 frs σs ps ft z i o
theorem qR.still(hr:sE ops ms)(ht:qR P call fl ops ms k0 frs σs ps ft z){i:Nat}{o:Oper}(ho:ops[i]?=some o)(hw:eV o.op=false):σs (i+1)=σs i:=by
 cases hwt:Region.wanted o (cK ops (frs i))with
 |true=>exact aBG (hr.shape i o ho) hw ((ht i o ho).run hwt).1
 |false=>exact((ht i o ho).skip hwt).2
theorem qR.T1(hr:sE ops ms)(ht:qR P call fl ops ms k0 frs σs ps ft z){i:Nat}:∀(d:Nat),i+d<=ops.size->(∀j o,i<=j->j<i+d->ops[j]?=some o->eV o.op=false)->σs (i+d)=σs i
 |0,_,_=>rfl
 |d+1,hn,h=>by
  have ih:=ht.T1 hr d Cd λj o h1 h2 ho=>h j o h1 Cd ho
  have ho:ops[i+d]?=some ops[i+d]:=yCx Cd;rw[show i+(d+1)=i+d+1 by omega,ht.still hr ho (h _ _ Cd Cd ho),ih]
def KQ(ops:Array Oper)(ms:List Nat)(ft:Nat->Option Nat)(z:Nat->Bool)(σs:Nat->List aA):Prop:=
 (∀(k i:Nat) (ok oi:Oper),ops[k]?=some ok->ops[i]?=some oi->gA ok.op=true->eN oi.op=true->loose ms i k=true->∀a b,ft i=some a->ft k=some b->a≠b) /\
 ∀(k i:Nat) (ok oi:Oper) (id:Nat),ops[k]?=some ok->ops[i]?=some oi->eC ok.op=true->eN oi.op=true->loose ms i k=true->z k=true->ft i=some id ->
  (σs k).length<=(σs (k+1)).length/\(id<(σs k).length->(σs (k+1))[id]?=(σs k)[id]?)
theorem qR.loose(hr:sE ops ms)(ht:qR P call fl ops ms k0 frs σs ps ft z)(hf:KQ ops ms ft z σs){i id:Nat}{oi:Oper}(hi:ops[i]?=some oi)(hl:eN oi.op=true)(hid:ft i=some id)
  {k:Nat} {o:Oper} (ho:ops[k]?=some o) (hk:eV o.op=true->Kz.loose ms i k=true) (hlt:id<(σs k).length):(σs (k+1))[id]?=(σs k)[id]?/\(σs k).length<=(σs (k+1)).length:=by
 cases hw:eV o.op with
 |false=>rw[ht.still hr ho hw];exact⟨rfl,yAk _⟩
 |true=>
  have hloose:=hk hw;cases hwt:Region.wanted o (cK ops (frs k))with
  |false=>rw[((ht k o ho).skip hwt).2];exact⟨rfl,yAk _⟩
  |true=>
   obtain⟨hrun,hfoot⟩:=(ht k o ho).run hwt;simp only[eV,yBv]at hw;rcases hw with hst|hmv
   .obtain⟨_,_,hA,hB,hM⟩:=KG (P:=P) (fr:=frs k) (.inr (.inr hst));unfold iE at hrun;simp only[hA,hB,hM,yAx,yAN,yAY]at hrun;obtain⟨id',o',h1,h2⟩:=aH7 hst hrun;have hne:id≠id':=hf.1 k i o oi ho hi hst hl hloose id id' hid (hfoot.trans h1);rw[h2];exact⟨yAd (yAU hne),Ce⟩
   .obtain⟨hA,hB,_,_⟩:=aH5 hmv;cases hfree:z k with
    |true=>
     obtain⟨q1,q2⟩:=hf.2 k i o oi id ho hi hmv hl hloose hfree hid;exact⟨q2 hlt,q1⟩
    |false=>
    rw[hfree]at hrun;unfold iE at hrun;simp only[hA,hB,hmv,yAx,yAN,yCu,yCh,yAK]at hrun;split at hrun
    .rename_i p σ1 hst;simp only[yAb,yAc]at hrun;rw[<-hrun.2];exact⟨by rw[yAg hlt],Ce⟩
    .simp at hrun
theorem qR.T3(hr:sE ops ms)(ht:qR P call fl ops ms k0 frs σs ps ft z)(hf:KQ ops ms ft z σs){i id:Nat}{oi:Oper}(hi:ops[i]?=some oi)(hl:eN oi.op=true)(hid:ft i=some id){m:Nat} :
  ∀(d:Nat),m+d<=ops.size->(∀k o,m<=k->k<m+d->ops[k]?=some o->eV o.op=true->Kz.loose ms i k=true)->id<(σs m).length->(σs (m+d))[id]?=(σs m)[id]?/\(σs m).length<=(σs (m+d)).length
 |0,_,_,_=>⟨rfl,yAk _⟩
 |d+1,hn,h,hlt=>by
  obtain⟨h1,h2⟩:=ht.T3 hr hf hi hl hid d Cd (λk o a b=>h k o a Cd) hlt;have ho:ops[m+d]?=some ops[m+d]:=yCx Cd;obtain⟨h3,h4⟩:=ht.loose hr hf hi hl hid ho (λhw=>h _ _ Cd Cd ho hw) Cd;exact⟨h3.trans h1,yAQ h2 h4⟩
theorem qR.BC(hr:sE ops ms)(ht:qR P call fl ops ms k0 frs σs ps ft z):∀(i:Nat),i<=ops.size->qT ops ps (frs 0) (· < i) (frs i)
 |0,_=>.start λj=>yAZ j
 |i+1,h=>by
  have ho:ops[i]?=some ops[i]:=yCx Cd;have ih:=ht.BC hr i Cd;rw[(ht i _ ho).put];exact(ih.put hr ho).congr λj=>Cd
theorem aHS(hr:sE ops ms)(ht:qR P call fl ops ms k0 frs σs ps ft z){S:Nat->Prop}{fr:Jk}(hS:O2 ops S)(hsl:qT ops ps (frs 0) S fr){i:Nat}{o:Oper}(ho:ops[i]?=some o)(hni:¬S i)
  (hready:∀e∈o.after,Region.binds .any e=true->S e.on) {x:Nat} (hx:x∈o.looksAt ops):fr[x]?=(frs i)[x]?:=by
 refine hsl.agree hr (ht.BC hr i (yBQ (qS ho))) λj oj hoj hd=>?_
 rcases Nat.lt_trichotomy j i with hlt|rfl|hgt
 .obtain⟨e,he,hb,heq⟩:=(hr.looks i o j oj x ho hoj Cd hd hx).1 hlt;exact⟨λ_=>hlt,λ_=>heq▸hready e he hb⟩
 .exact⟨λh=>absurd h hni,λh=>absurd h (yCG _)⟩
 .obtain⟨e,he,hb,heq⟩:=(hr.looks i o j oj x ho hoj Cd hd hx).2 hgt;exact⟨λh=>absurd (heq▸hS j oj h hoj e he hb) hni,λh=>absurd h Cd⟩
theorem aHT{fr fr':Jk}{o:Oper}(h:∀x∈o.looksAt ops,fr[x]?=fr'[x]?):∀x∈o.op.operands,bH fr x=bH fr' x:=by
 intro x hx;cases x with
 |tmp t=>
  have:t∈o.looksAt ops:=List.mem_append_left _ (yDr.2 ⟨.tmp t,Fb,rfl⟩);simp only[bH,yAA,h t this]
 |_=>rfl
theorem aHU{fr fr':Jk}{o:Oper}(h:∀x∈o.looksAt ops,fr[x]?=fr'[x]?):Region.wanted o (cK ops fr)=Region.wanted o (cK ops fr'):=by
 unfold Region.wanted;cases hg:o.guard with
 |none=>rfl
 |some gb=>
  obtain⟨g,b⟩:=gb;simp only;have:cK ops fr g=cK ops fr' g:=by
   unfold cK;cases hd:(ops[g]?).bind (·.dst)with
   |none=>rfl
   |some d=>
    have hm:d∈o.looksAt ops:=List.mem_append_right _ (by rw[hg];simp[hd]);simp only[h d hm]
  rw[this]
structure Inv (P:Program) (fl:Nat) (ops:Array Oper) (c0:Cx) (kU:List PD) (σs:Nat->List aA) (ps:Nat->PD) (df:List Deferred) (listed:Array Bool) (a:Act) (c:Cx) (fr:List PD) (b:Nat):Prop where
 size:listed.size=ops.size
 closed:O2 ops (Lt listed)
 sr:Sr c
 nx:Nx fl c0 c
 σ:c.σ=σs b
 bN:b<=ops.size
 front:∀(j:Nat) (o:Oper),ops[j]?=some o->eV o.op=true->(Lt listed j↔j<b)
 FJ:∀(i:Nat) (o:Oper) (t:TypeId),ops[i]?=some o->o.op=.alloc t->¬Lt listed i->¬c.D (c0.σ.length+iP ops.toList i)/\∃z,fQ P t=some z/\z.cells.all PD.plain=true/\c.σ[c0.σ.length+iP ops.toList i]?=some (.box (boxed t z))
 BC:qT ops ps kU (Lt listed) fr
 fr:FR c a fr
 df:a.defers=df
theorem O3{listed:Array Bool}{i j:Nat}(hi:i<listed.size):Lt (listed.setIfInBounds i true) j↔Lt listed j\/j=i:=by
 unfold Lt
 by_cases e:i=j
 .subst e;simp[hi]
 .rw[Array.getElem?_setIfInBounds_ne e];exact⟨.inl,λh=>h.elim id (λh=>absurd h.symm e)⟩
theorem Inv.step{c0:Cx}{kU:Jk}{df:List Deferred}{listed:Array Bool}{a:Act}{c:Cx}{fr:Jk}{b:Nat}(hr:sE ops ms)(hi:Inv P fl ops c0 kU σs ps df listed a c fr b){i b':Nat}{o:Oper}(ho:ops[i]?=some o)
  (hready:∀e∈o.after,Region.binds .any e=true->Lt listed e.on) {c':Cx} {v:Value} (hs':Sr c') (nx':Nx fl c0 c') (eT:c'.σ=σs b') (hb':b'<=ops.size)
  (hfront:∀(j:Nat) (o:Oper),ops[j]?=some o->eV o.op=true->((Lt listed j\/j=i)↔j<b'))
  (hholes:∀(j:Nat) (o:Oper) (t:TypeId),ops[j]?=some o->o.op=.alloc t->¬Lt listed j->j≠i->¬c'.D (c0.σ.length+iP ops.toList j)/\∃z,fQ P t=some z/\z.cells.all PD.plain=true/\c'.σ[c0.σ.length+iP ops.toList j]?=some (.box (boxed t z)))
  (hf':FR c' a fr) (hv:VR c' v (ps i)):Inv P fl ops c0 kU σs ps df (listed.setIfInBounds i true) (a.put o.dst v) c' (bG fr o.dst (ps i)) b':=by
 have hlt:i<listed.size:=Io;refine⟨by simpa using hi.size,?_,hs',nx',eT,hb',?_,?_,?_,hf'.put hv _,?_⟩
 .intro j oj hj hoj e he hb;rw[O3 hlt]at hj ⊢;rcases hj with hj|rfl
  .exact .inl (hi.closed j oj hj hoj e he hb)
  .rw[ho]at hoj;simp only[yAb]at hoj;subst hoj;exact .inl (hready e he hb)
 .intro j oj hoj hw;rw[O3 hlt];exact hfront j oj hoj hw
 .intro j oj t hoj ht hn;rw[O3 hlt]at hn;exact hholes j oj t hoj ht (λh=>hn (.inl h)) (λh=>hn (.inr h))
 .exact(hi.BC.put hr ho).congr λj=>(O3 hlt).symm
 .rw[<-hi.df];cases o.dst<;>rfl
end
end
section
open Go.RowKit
theorem aBr{P:Program}{σ σ':Jj}{t:TypeId}{a p:PD}(h:qP P σ t a=some p)(he:∀id,gS a=some id->σ'[id]?=σ[id]?):qP P σ' t a=some p:=by
 unfold qP at h ⊢;cases a<;>simp only at h ⊢<;>first|exact h|(simp at h;done)|skip
 .rename_i id off;rw[he id rfl];exact h
 .rename_i id ver off;rw[he id rfl];exact h
theorem aBs{P:Program}{σ:Jj}{t:TypeId}{a:PD}{id:Nat}{p:PD}(h:qP P σ t a=some p)(ha:gS a=some id):id<σ.length:=by
 unfold qP at h;cases a<;>simp only[gS,reduceCtorEq,yAb]at ha
 .subst ha;simp only at h;exact Ak
 .cases h
 .subst ha;simp only at h;exact Ak
theorem VR.aHO{c:Cx}{v:Value}{a:PD}{id:Nat}(h:VR c v a)(ha:gS a=some id):c.D id:=by
 cases a<;>simp only[gS,reduceCtorEq,yAb]at ha
 .subst ha;obtain⟨_,_,hd,_⟩:=h.uY;exact hd
 .subst ha;obtain⟨_,_,_,hd,_⟩:=h.FI;exact hd
 .subst ha;obtain⟨_,_,hd⟩:=h.HP;exact hd.1
theorem aHP{σ σ':Jj}{a:PD}{xs:Jk}(h:BB σ a=some xs)(he:∀id,gS a=some id->σ'[id]?=σ[id]?):BB σ' a=some xs:=by
 unfold BB at h ⊢;cases a<;>simp only at h ⊢<;>first|exact h|(simp at h;done)|skip
 rename_i id off n size;rw[he id rfl];exact h
theorem aBt{σ:Jj}{a:PD}{id:Nat}{xs:Jk}(h:BB σ a=some xs)(ha:gS a=some id):id<σ.length:=by
 unfold BB at h;cases a<;>simp only[gS,reduceCtorEq,yAb]at ha
 .cases h
 .subst ha;simp only at h;split at h
  .exact Ak
  .exact ak
 .cases h
theorem TY{P:Program}{σ:Jj}{s d:TypeId}{a p:PD}(h:C7 P σ s d a=some p):∃xs,BB σ a=some xs:=by
 unfold C7 at h;cases hx:BB σ a with
 |none=>rw[hx]at h;cases h
 |some xs=>exact⟨xs,rfl⟩
theorem aBu{P:Program}{σ σ':Jj}{s d:TypeId}{a p:PD}(h:C7 P σ s d a=some p)(he:∀id,gS a=some id->σ'[id]?=σ[id]?):C7 P σ' s d a=some p:=by
 obtain⟨xs,hx⟩:=TY h;unfold C7 at h ⊢;rw[aHP hx he];rw[hx]at h;exact h
section
variable{F:Fence}{P:Program}{call:dB}{fl n:Nat}{Q:Exit->Act->World->Prop}{ops:Jo}{frs:Nat->Jk}{σs:Nat->Jj}{ps:Nat->PD}{ft:Nat->Option Nat}{z:Nat->Bool}
 {c0:Cx} {df:List Deferred}
theorem aHQ(hF:Open F P)(hc:Ok F P call)(hr:sE ops (cY ops.toList []))(ht:qR P call fl ops (cY ops.toList []) c0.σ.length frs σs ps ft z)(hfeet:KQ ops (cY ops.toList []) ft z σs)
  (hs0:Sr c0) (tT:Xw fl c0) {listed:Array Bool} {a:Act} {c:Cx} {fr:Jk} {b:Nat} (hi:Inv P fl ops c0 (frs 0) σs ps df listed a c fr b) {i:Nat} (hmem:i∈Region.ready .any ops listed) {K:Act->World->Prop}
  (hK:∀a' c' fr' b',Inv P fl ops c0 (frs 0) σs ps df (listed.setIfInBounds i true) a' c' fr' b'->K a' c'.w):wpOpIn F n P ops Q i K a c.w:=by
 obtain⟨hun,o,ho,aHR⟩:=mem_ready.1 hmem;have hlt:i<ops.size:=qS ho;have hni:¬Lt listed i:=by
  intro h;unfold Lt at h;rw[yDa,h]at hun;cases hun
 have hready:∀e∈o.after,Region.binds .any e=true->Lt listed e.on:=λe he hb=>by
  have:=aHR e he hb;rw[yDa]at this;unfold Lt;cases hx:listed[e.on]? with
  |none=>rw[hx]at this;cases this
  |some t=>rw[hx]at this;simp at this;rw[this]
 have agree:=λx hx=>aHS hr ht hi.closed hi.BC ho hni hready (x:=x) hx
 have ev:=aHT agree;have hlen:fr.length=(frs i).length:=hi.BC.len.trans (ht.BC hr i (yBQ hlt)).len.symm;have hXc:Xw fl c:=tT.next hs0 hi.nx;have hXm:Xw (max fl c.σ.length) c:=λid g hd hle _ _ _=>absurd (hi.sr.bQ id hd) Cd
 have frontN:eV o.op=false->∀(j:Nat) (oj:Oper),ops[j]?=some oj->eV oj.op=true->((Lt listed j\/j=i)↔j<b):=λhw j oj hoj hwj=>by
  have hne:j≠i:=by rintro rfl;rw[ho]at hoj;simp only[yAb]at hoj;subst hoj;rw[hw]at hwj;cases hwj
  rw[<-hi.front j oj hoj hwj];simp[hne]
 have wb:eV o.op=true->b<=i:=λhw=>by
  rcases yCg i b with h|h
  .exact absurd ((hi.front i o ho hw).2 h) hni
  .exact h
 have wlow:eV o.op=true->∀(j:Nat) (oj:Oper),ops[j]?=some oj->eV oj.op=true->j<i->Lt listed j:=λhw j oj hoj hwj hji=>
  aBv hr.down hi.closed ho hready (hr.ord i o j oj ho hoj hw hwj hji)
 have frontW:eV o.op=true->∀(j:Nat) (oj:Oper),ops[j]?=some oj->eV oj.op=true->((Lt listed j\/j=i)↔j<i+1):=λhw j oj hoj hwj=>by
  constructor
  .rintro(h|rfl)
   .have:=(hi.front j oj hoj hwj).1 h;have:=wb hw;omega
   .omega
  .intro h;rcases yCg j i with h' | h'
   .exact .inl (wlow hw j oj hoj hwj h')
   .exact .inr Cd
 have TZ:eV o.op=true->c.σ=σs i:=λhw=>by
  have hle:=wb hw;rw[hi.σ];have:=ht.T1 hr (i:=b) (i-b) Cd λj oj h1 h2 hoj=>by
   cases hwj:eV oj.op with
   |false=>rfl
   |true=>exact absurd ((hi.front j oj hoj hwj).1 (wlow hw j oj hoj hwj Cd)) Cd
  rw[show b+(i-b)=i by omega]at this;exact this.symm
 have FJ:∀ {fA:Nat} {c':Cx},Nx fA c c'->∀(j:Nat) (oj:Oper) (t:TypeId),ops[j]?=some oj->oj.op=.alloc t->¬Lt listed j->j≠i ->
   ¬c'.D (c0.σ.length+iP ops.toList j)/\∃z,fQ P t=some z/\z.cells.all PD.plain=true/\c'.σ[c0.σ.length+iP ops.toList j]?=some (.box (boxed t z)):=λnx j oj t hoj hot hnl _=>by
  obtain⟨hnd,z,h1,h2,h3⟩:=hi.FJ j oj t hoj hot hnl;have hl:=(yA.1 h3).1;exact⟨λhd=>(nx.new _ hd).elim hnd (λh=>Cd),z,h1,h2,(nx.hole _ hl hnd).trans h3⟩
 unfold wpOpIn;simp only[ho];rw[aBw hi.fr,aHU agree];cases hw:Region.wanted o (cK ops (frs i))with
 |false=>
  obtain⟨hp,eT⟩:=(ht i o ho).skip hw;simp only[yAx,yAN];refine⟨λf _=>hF.fn f,?_⟩;cases hW:eV o.op with
  |false=>exact hK _ c _ b (hi.step hr ho hready hi.sr hi.nx hi.σ hi.bN (frontN hW) (FJ (.refl 0 c)) hi.fr (by rw[hp];exact VR.undef c))
  |true=>exact hK _ c _ (i+1) (hi.step hr ho hready hi.sr hi.nx ((TZ hW).trans eT.symm) hlt (frontW hW) (FJ (.refl 0 c)) hi.fr (by rw[hp];exact VR.undef c))
 |true=>
  obtain⟨hrun,hfoot⟩:=(ht i o ho).run hw;simp only[yAK];have gen:∀(fA b':Nat) (σ1:List aA),fl<=fA->Xw fA c->dE P call fA fr c.σ o.op=some (ps i,σ1)->(∀c',Nx fA c c'->c'.σ=σ1->c'.σ=σs b')->b'<=ops.size ->
    (∀(j:Nat) (oj:Oper),ops[j]?=some oj->eV oj.op=true->((Lt listed j\/j=i)↔j<b'))->o.wpIn F n P a c.w K Q:=by
   intro fA b' σ1 hle hX' hst aHV hb' hfront;refine aBx hF hc hi.sr hX' hi.fr hst λv w' hl=>?_
   obtain⟨c',rfl,e,hs',nx,hv,_⟩:=hl;exact hK _ c' _ b' (hi.step hr ho hready hs' (hi.nx.trans (nx.weaken hle)) (aHV c' nx e) hb' hfront (FJ nx) (hi.fr.mono nx) hv)
  unfold iE at hrun
  by_cases hA:fH o.op=true
  .obtain⟨hpc,_,hW,_⟩:=aBg (fr:=fr) hA;rw[yAJ hA]at hrun;split at hrun
   .rename_i p hp;simp only[yAb,yAc]at hrun;obtain⟨rfl,_⟩:=hrun;refine gen fl b c.σ (yAk _) hXc ?_ (λc' _ e=>e.trans hi.σ) hi.bN (frontN hW);unfold dE pop;rw[hpc,aBy _ ev,hp]
   .simp at hrun
  .simp only[yCw]at hA;rw[hA]at hrun;simp only[yAx,yAN]at hrun
   by_cases hB:dF o.op=true
   .obtain⟨_,hW,_,t,hop⟩:=aHW hB;rw[yAJ hB]at hrun;simp only[yAb,yAc]at hrun;obtain⟨hp,_⟩:=hrun;obtain⟨hnd,z,hz,hpl,hbox⟩:=hi.FJ i o t ho hop hni;obtain⟨zv,inf,hinf,hzv,hzr⟩:=FK (c:=c) hz;have nS:=(T2 (P:=P) (fl:=fl) hi.sr (OY hz hinf hzv t) (aZ.zM hzr.cells hpl) t (λt' ds e=>OZ hzr e)).1;have hrun:(execOp a.eval o).run P c.w=.ok (.value (.pointer (some ⟨c.w.heap.size,0,none⟩))) (c.w.alloc (.cells zv.cells t)):=by
     obtain⟨dst,op,ty,pos,after,guard⟩:=o;simp only at hop;subst hop;simp[execOp,Instr.alloc,zeroValue,typeInfo,hinf,hzv,nS]
    refine⟨λf _=>hF.fn f,?_⟩;rw[Oper.semAt_eq _ _ _ (by rw[hop];intro d e;cases e),hrun];have hg:c.w.grownBy (c.w.alloc (.cells zv.cells t)) none:=zK _ _;have jN:∀b',bI (.pointer (some ⟨c.w.heap.size,0,none⟩))=some b'->c.w.heap.size<=b':=λb' hb=>Gy
    have hnv:Nv c (c.oV (c.w.alloc (.cells zv.cells t)) (c0.σ.length+iP ops.toList i) (.pointer (some ⟨c.w.heap.size,0,none⟩))):=Nv.oV hnd hbox hg jN;refine hK _ (c.oV (c.w.alloc (.cells zv.cells t)) (c0.σ.length+iP ops.toList i) (.pointer (some ⟨c.w.heap.size,0,none⟩))) _ b
     (hi.step hr ho hready (hi.sr.oV hnd hbox hg (yAk _) (yC _ _) (OY hz hinf hzv t) ⟨aZ.zM hzr.cells hpl,λt' ds e=>OZ hzr e⟩) (hi.nx.oV hnd hbox hg jN Cd) hi.σ hi.bN (frontN hW) ?_ ⟨aZ.oW hnv hi.fr.1,(hi.sr.oV hnd hbox hg (yAk _) (yC _ _) (OY hz hinf hzv t) ⟨aZ.zM hzr.cells hpl,λt' ds e=>OZ hzr e⟩).kM⟩ ?_)
    .intro j oj t' hoj hot hnl hne;obtain⟨aHX,z',h1,h2,h3⟩:=hi.FJ j oj t' hoj hot hnl;refine⟨λhd=>?_,z',h1,h2,h3⟩;rcases hd with hd|hd
     .exact aHX hd
     .exact aHY (l:=ops.toList) (by simpa using hoj) Fc (by rw[hot];rfl) hB hne Cd
    .rw[<-hp];exact .ptr _ _ _ (.inr rfl) ⟨_,hbox⟩ C8
   .simp only[yCw]at hB;rw[hB]at hrun;simp only[yAx,yAN]at hrun
    by_cases hM:eC o.op=true
    .have hW:eV o.op=true:=by simp[eV,hM]
     have eT:=TZ hW;rw[hM]at hrun;cases hfree:z i with
     |true=>
      rw[hfree]at hrun;simp only[yBP,Bool.and_false,yAx,yAN,yAK]at hrun;refine gen fl (i+1) (σs (i+1)) (yAk _) hXc ?_ (λc' _ e=>e) hlt (frontW hW);rw[aBz hlen _ ev,eT];exact hrun
     |false=>
      rw[hfree]at hrun;simp only[yCu,yCh,yAK]at hrun;split at hrun
      .rename_i p σ1 hst;simp only[yAb,yAc]at hrun;obtain⟨rfl,aHZ⟩:=hrun;refine gen (max fl c.σ.length) (i+1) σ1 Cd hXm ?_ (λc' nx e=>?_) hlt (frontW hW)
       .rw[aBz hlen _ ev,eT];exact hst
       .rw[<-aHZ,<-e,<-eT];refine yCo λid=>?_
        rcases yCg id c.σ.length with h|h
        .rw[yAg h];exact nx.ro id Cd h
        .rw[yBJ h,yBh]
         congr 1;omega
      .simp at hrun
    .simp only[yCw]at hM;rw[hM]at hrun;simp only[yAY,yAx,yAN]at hrun;have hsh:=hr.shape i o ho;simp only[hA,hB,eV,hM,yBZ,yDG,yBv]at hsh
     by_cases hst:gA o.op=true
     .have hW:eV o.op=true:=by simp[eV,hst]
      obtain⟨jN,KR,_⟩:=KG (P:=P) (fr:=fr) (.inr (.inr hst));refine gen fl (i+1) (σs (i+1)) (yAk _) hXc ?_ (λc' _ e=>e) hlt (frontW hW);unfold dE pop;rw[KR,jN];simp only;rw[O0 hlen _ ev,TZ hW];exact hrun
     .have hW:eV o.op=false:=by simp[eV,hM,hst]
      by_cases hL:eN o.op=true
      .obtain⟨jN,KR,_⟩:=KG (P:=P) (fr:=fr) (.inl hL);refine gen fl b c.σ (yAk _) hXc ?_ (λc' _ e=>e.trans hi.σ) hi.bN (frontN hW);unfold dE pop;rw[KR,jN];simp only;rw[O0 hlen _ ev];obtain⟨dst,op,ty,pos,after,guard⟩:=o;have aBA:∀x ad,op.operands=#[x]->bH (frs i) x=some ad->(kV (frs i) op=gS ad)->(∀id,gS ad=some id->id<(σs i).length)->∀id,gS ad=some id->c.σ[id]?=(σs i)[id]?:=by
        intro x ad hopx had hfe hltA id hida;have hfid:ft i=some id:=by rw[hfoot,hfe,hida]
        rcases yCg i b with hib|hbi
        .have h1:=(ht.T3 hr hfeet ho hL hfid (m:=i) (b-i) (by have:=hi.bN;omega) (λk ok h1 h2 hok hwk=>by
          have hk:Lt listed k:=(hi.front k ok hok hwk).2 Cd;unfold loose;simp only[yAr,yBw,];refine⟨?_,?_⟩
          .cases hx:((cY ops.toList []).getD i 0).testBit k with
           |false=>rfl
           |true=>exact absurd (aBB hr.down i k hx) Cd
          .cases hx:((cY ops.toList []).getD k 0).testBit i with
           |false=>rfl
           |true=>exact absurd (aBC hr.down hi.closed k i hk hx) hni) (hltA id hida)).1
         rw[show i+(b-i)=b by omega]at h1;rw[hi.σ];exact h1
        .have hd:id<(σs b).length:=by
          have hev:bH fr x=some ad:=by
           rw[ev x (by rw[hopx];simp)];exact had
          have hd:=(eW hi.fr hev).aHO hida;rw[<-hi.σ];exact hi.sr.bQ id hd
         have h1:=(ht.T3 hr hfeet ho hL hfid (m:=b) (i-b) Cd (λk ok h1 h2 hok hwk=>by
          have hk:¬Lt listed k:=λhk=>absurd ((hi.front k ok hok hwk).1 hk) Cd
          unfold loose;simp only[yAr,yBw,];refine⟨?_,?_⟩
          .cases hx:((cY ops.toList []).getD i 0).testBit k with
           |false=>rfl
           |true=>exact absurd (aBv hr.down hi.closed ho hready hx) hk
          .cases hx:((cY ops.toList []).getD k 0).testBit i with
           |false=>rfl
           |true=>exact absurd (aBB hr.down k i hx) Cd) hd).1
         rw[show b+(i-b)=i by omega]at h1;rw[hi.σ];exact h1.symm
       by_cases hcv:∃s d x,op=.convert s d x
       .obtain⟨s,d,x,rfl⟩:=hcv;simp only[dK]at hrun ⊢;split at hrun
        .rename_i htc;rw[yAJ htc];split at hrun
         .rename_i ad had;split at hrun
          .exact yb
          .split at hrun
           .rename_i p hp;obtain⟨xs,hxs⟩:=TY hp;rw[aBu hp (aBA x ad rfl had (by simp only[kV,had]) (λid=>aBt hxs))];exact yb
           .cases hrun
         .cases hrun
        .cases hrun
       obtain⟨t,x,rfl⟩:∃t x,op=.load t x:=by cases op<;>simp[eN]at hL hcv ⊢
       simp only[dK]at hrun ⊢;split at hrun
       .rename_i ad had;split at hrun
        .rename_i p hp;simp only[yAb,yAc]at hrun;obtain⟨rfl,_⟩:=hrun;have hkeep:∀id,gS ad=some id->c.σ[id]?=(σs i)[id]?:=aBA x ad rfl had (by simp only[kV,had]) (λid=>aBs hp);rw[aBr hp hkeep]
        .simp at hrun
       .simp at hrun
      .have hS:mN o.op=true:=by simpa [hL,hst]using hsh
       obtain⟨jN,KR,_⟩:=KG (P:=P) (fr:=fr) (.inr (.inl hS));refine gen fl b c.σ (yAk _) hXc ?_ (λc' _ e=>e.trans hi.σ) hi.bN (frontN hW);unfold dE pop;rw[KR,jN];simp only;rw[O0 hlen _ ev];obtain⟨dst,op,ty,pos,after,guard⟩:=o
       by_cases hmk:∃t x y,op=.makeSlice t x y
       .obtain⟨t,x,y,rfl⟩:=hmk;obtain⟨q,hq⟩:=pmem_make (P:=P) hS;simp only[hq]at hrun ⊢;cases q with
        |none=>cases hrun
        |some q=>
         simp only[yAC,yAb,yAc]at hrun ⊢;exact⟨hrun.1,trivial⟩
       obtain⟨t,ln,parts,rfl⟩:∃t ln parts,op=.buildSlice t ln parts:=by cases op<;>simp[mN]at hS hmk ⊢
       simp only[dK]at hrun ⊢;split at hrun
       .rename_i qs hqs;split at hrun
        .rename_i p hp;simp only[yAb,yAc]at hrun;obtain⟨rfl,_⟩:=hrun;rfl
        .simp at hrun
       .simp at hrun
theorem aH0(hr:sE ops (cY ops.toList []))(ht:qR P call fl ops (cY ops.toList []) c0.σ.length frs σs ps ft z){listed:Array Bool}{a:Act}{c:Cx}{fr:Jk}{b:Nat}(hi:Inv P fl ops c0 (frs 0) σs ps df listed a c fr b)
  (hnil:Region.ready .any ops listed=[]):c.σ=σs ops.size/\fr=frs ops.size:=by
 have hall:∀i,i<ops.size->Lt listed i:=by
  intro i
  induction i using Nat.strongRecOn with
  |_ i ih=>
   intro hlt;have ho:ops[i]?=some ops[i]:=yCx hlt;have hls:i<listed.size:=by rw[hi.size];exact hlt
   cases hb:listed[i]with
   |true=>unfold Lt;rw[yCx hls,hb]
   |false=>
    have:i∈Region.ready .any ops listed:=mem_ready.2 ⟨by rw[yDa,yCx hls,hb];rfl,_,ho,λe he hbd=>by
     have hd:=hr.down i _ ho e he hbd;have:=ih e.on hd Cd;unfold Lt at this;rw[yDa,this];rfl⟩
    rw[hnil]at this;cases this
 constructor
 .rw[hi.σ];have:=ht.T1 hr (i:=b) (ops.size-b) (by have:=hi.bN;omega) λj oj h1 h2 hoj=>by
   cases hwj:eV oj.op with
   |false=>rfl
   |true=>exact absurd ((hi.front j oj hoj hwj).1 (hall j (qS hoj))) Cd
  rw[show b+(ops.size-b)=ops.size by have:=hi.bN;omega]at this;exact this.symm
 .exact hi.BC.same hr (ht.BC hr ops.size (yAk _)) λj o hoj=>⟨λ_=>qS hoj,λh=>hall j h⟩
theorem aH1(hF:Open F P)(hc:Ok F P call)(hr:sE ops (cY ops.toList []))(ht:qR P call fl ops (cY ops.toList []) c0.σ.length frs σs ps ft z)(hfeet:KQ ops (cY ops.toList []) ft z σs)
  (hs0:Sr c0) (tT:Xw fl c0) (hQ:∀c' a',c'.σ=σs ops.size->Sr c'->Nx fl c0 c'->FR c' a' (frs ops.size)->a'.defers=df->Q .normal a' c'.w) :
  ∀(fuel:Nat) (listed:Array Bool) (a:Act) (c:Cx) (fr:List PD) (b:Nat),Inv P fl ops c0 (frs 0) σs ps df listed a c fr b->listed.toList.countP (·==false)<=fuel->wpAnyIn F n P .any ops Q fuel listed a c.w:=by
 have done:∀(listed:Array Bool) (a:Act) (c:Cx) (fr:List PD) (b:Nat),Inv P fl ops c0 (frs 0) σs ps df listed a c fr b->Region.ready .any ops listed=[]->Q .normal a c.w:=by
  intro listed a c fr b hi hnil;obtain⟨e1,e2⟩:=aH0 hr ht hi hnil;exact hQ c a e1 hi.sr hi.nx (e2▸hi.fr) hi.df
 intro fuel
 induction fuel with
 |zero=>
  intro listed a c fr b hi hn;have h0:∀x∈listed.toList,¬(x==false)=true:=List.countP_eq_zero.1 (yDb.1 hn);have hnil:Region.ready .any ops listed=[]:=by
   apply List.eq_nil_iff_forall_not_mem.2;intro i hm;obtain⟨hun,o,ho,_⟩:=mem_ready.1 hm;have hls:i<listed.size:=Io;rw[yDa,yCx hls]at hun;exact h0 _ (yCc.2 (Array.getElem_mem hls)) (by simpa using hun)
  exact⟨hnil,done listed a c fr b hi hnil⟩
 |succ fuel ih=>
  intro listed a c fr b hi hn;refine⟨done listed a c fr b hi,λi hm=>aHQ hF hc hr ht hfeet hs0 tT hi hm λa' c' fr' b' hi'=>ih _ a' c' fr' b' hi' ?_⟩;obtain⟨hun,o,ho,_⟩:=mem_ready.1 hm;have hls:i<listed.size:=Io;have hli:i<listed.toList.length:=by simpa using hls
  rw[yDa,yCx hls]at hun;simp only[yDn]at hun;rw[yEa,List.countP_set hli];have hpos:0<listed.toList.countP (·==false):=List.countP_pos_iff.2 ⟨listed[i],yCc.2 (Array.getElem_mem hls),by simp[hun]⟩;have e:listed.toList[i]=false:=by simpa using hun
  rw[e];simp only[beq_self_eq_true,yAK,show(true==false)=false from rfl,yAx,yAN];omega
theorem aBD(hF:Open F P)(hc:Ok F P call){a:Act}{fr fr':Jk}{σ' hst:Jj}(hs:Sr c0)(hX:Xw fl c0)(hf:FR c0 a fr)(hr:sE ops (cY ops.toList []))(hho:mO P ops.toList=some hst)
  {frs:Nat->Jk} {σs:Nat->Jj} {ps:Nat->PD} {ft:Nat->Option Nat} {z:Nat->Bool} (e1:frs 0=fr) (e2:σs 0=c0.σ++hst) (e3:frs ops.size=fr') (e4:σs ops.size=σ')
  (ht:qR P call fl ops (cY ops.toList []) c0.σ.length frs σs ps ft z) (hfeet:KQ ops (cY ops.toList []) ft z σs)
  (hQ:∀c' a',c'.σ=σ'->Sr c'->Nx fl c0 c'->FR c' a' fr'->a'.defers=a.defers->Q .normal a' c'.w):wpAnyIn F n P .any ops Q ops.size (Array.replicate ops.size false) a c0.w:=by
 have hs':=hs.ahead hst;refine aH1 (df:=a.defers) hF hc hr ht hfeet hs hX (λc' a' h1 h2 h3 h4 h5=>hQ c' a' (h1.trans e4) h2 h3 (e3▸h4) h5) ops.size _ a (c0.ahead hst) fr 0 ?_ ?_
 .refine⟨Ce,?_,hs',Nx.ahead hs hst,e2.symm,yAF _,?_,?_,?_,FR.mono (Nx.ahead (fl:=0) hs hst) hf,rfl⟩
  .intro i o hi;unfold Lt at hi;rw[yEb]at hi;split at hi<;>simp at hi
  .intro j o _ _;unfold Lt;rw[yEb];split<;>simp
  .intro i o t ho hot _;obtain⟨z,h1,h2,h3⟩:=T4 hho i o t Fc hot;refine⟨λhd=>absurd (hs.bQ _ hd) Cd,z,h1,h2,?_⟩;show(c0.σ++hst)[_]?=_
   rw[yBJ Cd,show c0.σ.length+iP ops.toList i-c0.σ.length=iP ops.toList i by omega];exact h3
  .rw[<-e1];refine .start λj hj=>?_
   unfold Lt at hj;rw[yEb]at hj;split at hj<;>simp at hj
 .exact yAQ List.countP_le_length Ce
theorem aBE{tr:List TE}{ft:Nat->Option Nat}(hfo:pH ops.toList (cY ops.toList []) tr=true)(hft:∀j,0<=j->j<ops.size->ft j=(tr[j-0]?).bind TE.jX) :
  ∀(k i:Nat) (ok oi:Oper),ops[k]?=some ok->ops[i]?=some oi->gA ok.op=true->eN oi.op=true->loose (cY ops.toList []) i k=true->∀a b,ft i=some a->ft k=some b->a≠b:=by
 intro k i ok oi HQ hoi hsk hli hloose x y hx hy;simp only[pH,yAn,yAR]at hfo;have h1:=hfo k (by simpa using qS HQ);rw[O1 HQ,hsk]at h1;simp only[yBP,yBZ,yAn,yAR]at h1;have h2:=h1 i (by simpa using qS hoi);rw[O1 hoi,hli,hloose]at h2;have hxi:=hft i (yAF _) (qS hoi);have hyk:=hft k (yAF _) (qS HQ);simp only[yDq]at hxi hyk;rw[<-hxi,<-hyk,hx,hy]at h2;simpa using h2
theorem aHJ(hF:Open F P)(hc:Ok F P call){a:Act}{fr fr':Jk}{σ':Jj}(hs:Sr c0)(hX:Xw fl c0)(hf:FR c0 a fr)(h:mP P call fl ops fr c0.σ=some (fr',σ'))
  (hQ:∀c' a',c'.σ=σ'->Sr c'->Nx fl c0 c'->FR c' a' fr'->a'.defers=a.defers->Q .normal a' c'.w):wpAnyIn F n P .any ops Q ops.size (Array.replicate ops.size false) a c0.w:=by
 unfold mP at h;split at h
 .rename_i x h;simp only[yAb]at h;subst h;rename_i h;unfold nP at h;simp only at h;split at h
  .rename_i hok;have hr:=A1 hok;split at h
   .rename_i hst hho;split at h
    .rename_i tr aX σ1 hops;split at h
     .rename_i hfo;simp only[yAb,yAc]at h;obtain⟨rfl,rfl⟩:=h;obtain⟨frs,σs,ps,ft,e1,e2,e3,e4,htr,hft⟩:=aH2 (k0:=c0.σ.length) ops.toList 0 _ _ _ _ _ _ Ce (by simp[iP]) hops;simp only[yAp,yBf]at e3 e4 hft;have ht:qR P call fl ops (cY ops.toList []) c0.σ.length frs σs ps ft (λi=>kP ops.toList (cY ops.toList []) i):=λi o ho=>htr i o (yAF _) ho
      refine aBD hF hc hs hX hf hr hho e1 e2 e3 e4 ht ⟨aBE hfo hft,?_⟩ hQ;intro k i ok oi id HQ hoi hmk hli hlo hz _;simp only[kP,yAn,yAR]at hz;have:=hz i (by simpa using qS hoi);rw[O1 hoi,hli,hlo]at this;simp at this
     .exact ak
    .exact ak
   .exact ak
  .exact ak
 .split at h
  .rename_i hok;have hr:=A1 hok;split at h
   .rename_i hst hho;split at h
    .rename_i tr aX σ1 hops;split at h
     .rename_i hfo;obtain⟨hfo,hkp⟩:=hfo;simp only[yAb,yAc]at h;obtain⟨rfl,rfl⟩:=h;obtain⟨frs,σs,ps,ft,e1,e2,e3,e4,htr,hft,aBF⟩:=aH3 (k0:=c0.σ.length) (ms:=cY ops.toList []) ops.toList 0 _ _ _ _ _ _ Ce (by simp[iP]) hops;simp only[yAp,yBf]at e3 e4 hft;have ht:qR P call fl ops (cY ops.toList []) c0.σ.length frs σs ps ft (λ_=>true):=λi o ho=>htr i o (yAF _) ho
      refine aBD hF hc hs hX hf hr hho e1 e2 e3 e4 ht ⟨aBE hfo hft,?_⟩ hQ;intro k i ok oi id HQ hoi hmk hli hlo _ hid;have aH4:(tr[i]?).bind TE.jX=some id:=by
       have:=hft i (yAF _) (qS hoi);rw[yDq]at this;rw[<-this,hid]
      have:=hkp k i id ok oi (by simpa using HQ) (by simpa using hoi) hmk hli hlo aH4;have h1:=aBF k (yAF _);have h2:=aBF (k+1) (yAF _);simp only[yDq]at h1 h2;rw[h1,h2];exact this
     .exact ak
    .exact ak
   .exact ak
  .exact ak
end
end
section
open Go.RowKit
section
variable{F:Fence}{n:Nat}{P:Program}{Q:Exit->Act->World->Prop}{a:Act}{w:World}
def BA(F:Fence)(n:Nat)(P:Program)(c:Code)(Q:Exit->Act->World->Prop)(a:Act)(w:World):Prop:=
 ∀(b:Frame) (k:List Item) (cs:List Frame),b.roundOf=F.round->F.fn b.fn->F.room (cs.length+1+n) ->
  ∃e a' w',Q e a' w'/\ArrivesIn (Machine.fenced P F) P (lone (b.atR a (.code c::.inLoop c::k)) cs w) b k cs e a' w'
theorem BA.wpIn{c:Code}(h:BA F n P c Q a w):(Code.loop c).wpIn F n P Q a w:=λb k cs hro hb hr=>
 let ⟨e,a',w',q,r⟩:=h b k cs hro hb hr;⟨e,a',w',q,.of_steps (.one (fenced_calm hb hr rfl) stepR_loop) r⟩
theorem BA.round{c:Code}(h:c.wpIn F n P (Exit.then (BA F n P c Q) Q) a w):BA F n P c Q a w:=by
 intro b k cs hro hb hr;obtain⟨e,a₁,w₁,hq,harr⟩:=h b (.inLoop c::k) cs hro hb hr;cases e with
 |normal=>
  obtain⟨e₂,a₂,w₂,hq₂,harr₂⟩:=hq b k cs hro hb hr;exact⟨e₂,a₂,w₂,hq₂,.of_steps (StepsIn.trans harr (.one (fenced_calm hb hr rfl) stepR_inLoop)) harr₂⟩
 |exit id=>exact⟨_,a₁,w₁,hq,.pass (x:=.inLoop c) rfl (λ_ _=>.inl Ce) harr⟩
 |goto l=>exact⟨_,a₁,w₁,hq,.pass (x:=.inLoop c) rfl (λ_ _=>.inl Ce) harr⟩
 |ret=>exact⟨_,a₁,w₁,hq,.pass (x:=.inLoop c) rfl (λ_ _=>.inl Ce) harr⟩
 |panic ch=>exact⟨_,a₁,w₁,hq,.pass (x:=.inLoop c) rfl (λ_ _=>.inl Ce) harr⟩
 |outgrown=>exact⟨_,a₁,w₁,hq,.pass (x:=.inLoop c) rfl (λ_ _=>.inl Ce) harr⟩
def rJ(F:Fence)(n:Nat)(P:Program)(c:Code)(Q:Exit->Act->World->Prop)(a:Act)(w:World):Prop:=
 match c with
 |.loop b=>BA F n P b Q a w
 |c=>c.wpIn F n P Q a w
theorem rJ.wpIn{c:Code}(h:rJ F n P c Q a w):c.wpIn F n P Q a w:=by
 unfold rJ at h;split at h
 .exact BA.wpIn h
 .exact h
end
def MR(c:Cx):List Deferred->List Nat->Prop
 | [],[]=>True
 |d::ds,m::ms=>(∃b,d.target=.collected b/\c.D m/\mG c.σ[m]?/\c.ρ m=.pointer (some ⟨b,0,none⟩))/\MR c ds ms
 |_,_=>False
theorem MR.mono{fl:Nat}{c c':Cx}(nx:Nx fl c c'):∀ {ds:List Deferred} {ms:List Nat},MR c ds ms->MR c' ds ms
 | [],[],_=>trivial
 |d::ds,m::ms,h=>by
  obtain⟨⟨b,h1,h2,h3,h4⟩,h5⟩:=h;obtain⟨e,k⟩:=nx.oF m h2 h3;exact⟨⟨b,h1,nx.bQ m h2,k,e.trans h4⟩,MR.mono nx h5⟩
 | [],_::_,h=>h.elim
 |_::_,[],h=>h.elim
def C5(F:Fence)(c:Cx):Option Nat->Prop
 |none=>F.round=none
 |some id=>∃l,F.round=some l/\c.D id/\mG c.σ[id]?/\c.ρ id=.pointer (some ⟨l,0,none⟩)
theorem C5.mono{fl:Nat}{F:Fence}{c c':Cx}(nx:Nx fl c c'){rd:Option Nat}(h:C5 F c rd):C5 F c' rd:=by
 cases rd with
 |none=>exact h
 |some id=>
  obtain⟨l,h1,h2,h3,h4⟩:=h;obtain⟨e,k⟩:=nx.oF id h2 h3;exact⟨l,h1,nx.bQ id h2,k,e.trans h4⟩
def TT(P:Program)(code:uX):Prop:=
 ∀ {F:Fence} {rd:Option Nat} {c:Code} {fl:Nat} {fr:Jk} {ms:List Nat} {cx:Cx} {r:PO} {a:Act},Open F P->code rd c fl fr ms cx.σ=some r->Sr cx->Xw fl cx->FR cx a fr->MR cx a.defers ms->C5 F cx rd ->
   ∀(m:Nat) (Q:Exit->Act->World->Prop),(∀mH a',mH.σ=r.σ->Sr mH->Nx fl cx mH->FR mH a' r.fr->MR mH a'.defers r.ms->Q r.x.KI a' mH.w)->rJ F m P c Q a cx.w
section
variable{P:Program}{c:Cx}{fl:Nat}
theorem aHN(hs:Sr c){a:Act}{fr:Jk}(hf:FR c a fr){rv:ResultVar}{p:PD}(h:CZ P fr c.σ rv=some p) :
  ∃v,((match rv with|.tmp t=>pure (a.tmps.getD t undef)|.cell x t=>do loadVar t (<-asAddr (a.tmps.getD x undef)):Sem Value)).run P c.w=.ok v c.w/\VR c v p:=by
 cases rv with
 |tmp t=>
  simp only[CZ,yAb]at h;subst h;exact⟨_,rfl,hf.tmp t⟩
 |cell x t=>
  simp only[CZ]at h;split at h
  .rename_i id off hid;have hv:=hf.tmp x;rw[hid]at hv;obtain⟨v,r,q⟩:=aBp (P:=P) hs h hv;obtain⟨b,e,_⟩:=hv.uY;refine⟨v,?_,q⟩;rw[e]at r;simp only[e,asAddr];simpa [Instr.loadAt,Instr.sureAddr]using r
  .exact ak
theorem aBq(hs:Sr c){a:Act}{fr:Jk}(hf:FR c a fr){f:ResultVar->Sem Value}(hfn:∀(rv:ResultVar) (p:PD),CZ P fr c.σ rv=some p->∃v,(f rv).run P c.w=.ok v c.w/\VR c v p):∀ {l:List ResultVar} {qs:Jk},zH P fr c.σ l=some qs ->
  ∃vs:List Value,(l.mapM f).run P c.w=.ok vs c.w/\aZ c vs qs
 | [],qs,h=>by
   simp only[zH,yAb]at h;subst h;exact⟨[],by simp[List.mapM_nil],rfl,Ce⟩
 |rv::l,qs,h=>by
  simp only[zH]at h;split at h
  .rename_i p ps h1 h2;simp only[yAb]at h;subst h;obtain⟨v,r,hv⟩:=hfn rv p h1;obtain⟨vs,rs,hvs⟩:=aBq hs hf hfn h2;refine⟨v::vs,by simp[List.mapM_cons,yBb,r,rs,Result.andThen],by simpa using hvs.1,λi u d hu hd=>?_⟩;cases i with
   |zero=>simp at hu hd;subst hu hd;exact hv
   |succ i=>exact hvs.2 i u d Ht Hr
  .exact ak
theorem aHM(hs:Sr c){a:Act}{fr:Jk}(hf:FR c a fr){fn:Func}{qs:Jk}(h:zH P fr c.σ fn.results.toList=some qs):∃v,(results fn a.tmps).run P c.w=.ok v c.w/\VR c v (FB qs):=by
 obtain⟨vs,r,hv⟩:=aBq hs hf (λrv p=>aHN hs hf) h;unfold results;rw[Array.mapM_eq_mapM_toList];rw[map_eq_pure_bind];simp only[yBb]
 generalize hg:Sem.run P (List.mapM _ fn.results.toList) c.w=res
 have e:res=.ok vs c.w:=hg.symm.trans r;subst e;simp only[Result.andThen,yBo];have hl:=hv.1
 by_cases h1:vs.length=1
 .obtain⟨v,rfl⟩:∃v,vs=[v]:=by
   match vs,h1 with
   | [v],_=>exact⟨v,rfl⟩
  obtain⟨p,rfl⟩:∃p,qs=[p]:=by
   match qs,hl with
   | [p],_=>exact⟨p,rfl⟩
  exact⟨v,Ce,hv.2 0 v p rfl rfl⟩
 .have e:FB qs=.aH qs:=by
   match qs,hl with
   | [],_=>rfl
   | [p],hl=>exact absurd hl h1
   |_::_::_,_=>rfl
  rw[e];refine⟨.tuple vs.toArray,?_,.aH vs qs hv.1 hv.2⟩;rw[dif_neg Ei]
end
end
section
open Go.RowKit
section
variable{P:Program}{fl:Nat}
theorem aBk{b b':Nat}(h:Value.pointer (some ⟨b,0,none⟩)=Value.pointer (some ⟨b',0,none⟩)):b=b':=Dg
theorem aBl{F:Fence}{n:Nat}{fn:Func}{tmps:Jn}{R:Ending->World->Prop}:∀(ms:List Nat) (ds:List Deferred) (c:Cx) (σ':List aA),A0 fl ms c.σ=some σ'->Sr c->MR c ds ms ->
  (∀c',c'.σ=σ'->Sr c'->Nx fl c c'->LeavesInM F n P fn tmps R [] .returning c'.w)->LeavesInM F n P fn tmps R ds .returning c.w
 | [],[],c,σ',h,hs,_,hR=>by
   simp only[A0,yAb]at h;exact hR c h hs (.refl _ _)
 |m::ms,d::ds,c,σ',h,hs,hm,hR=>by
  obtain⟨⟨b,h1,h2,h3,h4⟩,h5⟩:=hm;simp only[A0]at h;split at h
  .rename_i hfl;split at h
   .rename_i hmk;obtain⟨b',e1,e2⟩:=hs.mark m h2 hmk;have e:=aBk (h4.symm.trans e1);subst e;have nx:Nx fl c (c.put (c.w.putObj b (.deferred none)) m (c.ρ m) .none):=Nx.wP hs h2 hmk trivial trivial (by rw[h4];rfl) hfl e2 Ce;have hs':Sr (c.put (c.w.putObj b (.deferred none)) m (c.ρ m) .none):=Sr.wP hs h2 hmk trivial trivial (by rw[h4];rfl) e2 Ce trivial;refine⟨Ce,.inl ⟨b,c.w.putObj b (.deferred none),h1,run_takeDeferred e2,?_⟩⟩;exact aBl ms ds _ σ' h hs' (h5.mono nx) (λc' q1 q2 q3=>hR c' q1 q2 (nx.trans q3))
   .exact ak
  .exact ak
 | [],_::_,_,_,_,_,hm,_=>hm.elim
 |_::_,[],_,_,_,_,hm,_=>hm.elim
theorem Leaves.of{c c':Cx}{p:PD}{v:Value}(hs:Sr c')(nx:Nx fl c c')(hv:VR c' v p):Leaves fl c p c'.σ v c'.w:=
 ⟨c',rfl,rfl,hs,nx,hv,λid hd=>(nx.new id hd).imp (λh=>h) (λh=>⟨h,hs.bQ id hd⟩)⟩
theorem aBm{c:Cx}:∀(ts:List Tmp) (vs:List Value) (ps:List PD) (a:List Value) (fr:List PD),aZ c vs ps->aZ c a fr->ts.length=vs.length->aZ c ((ts.zip vs).foldl (λtmps x=>tmps.set x.1 x.2) a) (FA fr ts ps)
 | [],_,_,a,fr,_,h,_=>by simpa [FA]using h
 |t::ts,[],_,_,_,_,_,hl=>by simp at hl
 |t::ts,v::vs,[],_,_,hv,_,_=>by have:=hv.1;simp at this
 |t::ts,v::vs,p::ps,a,fr,hv,h,hl=>by
  simp only[List.zip_cons_cons,yDp,FA];refine aBm ts vs ps _ _ ⟨by simpa using hv.1,λi u d hu hd=>hv.2 (i+1) u d Ht Hr⟩ ⟨by simpa using h.1,λi u d hu hd=>?_⟩ Ez;rw[yCZ]at hu hd
  by_cases e:t=i
  .subst e;simp only[yAK]at hu hd;split at hu
   .split at hd
    .simp only[yAb]at hu hd;subst hu hd;exact hv.2 0 _ _ rfl rfl
    .simp at hd
   .simp at hu
  .rw[yAI e]at hu hd;exact h.2 i u d hu hd
theorem aBn:∀(l:List (Tmp×Value)) (a:Array Value),(l.foldl (λtmps x=>tmps.setIfInBounds x.1 x.2) a).toList=l.foldl (λtmps x=>tmps.set x.1 x.2) a.toList
 | [],a=>rfl
 |x::l,a=>by simp only[yDp];rw[aBn l];simp
theorem FF{c:Cx}(hs:Sr c){id l:Nat}{st:HL}{fr:Jk}{ps:List Tmp}{asg bd:Code}(hd:c.D id)(ho:c.σ[id]?=some (.loop st fr ps asg bd))(hr:c.ρ id=.pointer (some ⟨l,0,none⟩)) :
  ∃r,c.w.heap[l]?=some (.loop r)/\r.params=ps.toArray/\r.assign=asg/\r.body=bd/\aZ c r.tmps.toList fr/\st.fits r:=by
 obtain⟨b,r,e1,e2,e3⟩:=hs.loop id st fr ps asg bd hd ho;have e:=aBk (hr.symm.trans e1);subst e;exact⟨r,e2,e3⟩
theorem OT{c:Cx}(hs:Sr c){id l:Nat}{st st':HL}{fr:Jk}{ps:List Tmp}{asg bd:Code}{r r':Loop}(hd:c.D id)(ho:c.σ[id]?=some (.loop st fr ps asg bd))(hr:c.ρ id=.pointer (some ⟨l,0,none⟩))(hfl:fl<=id)
  (hh:c.w.heap[l]?=some (.loop r)) (h1:r'.params=ps.toArray) (h2:r'.assign=asg) (h3:r'.body=bd) (h4:aZ c r'.tmps.toList fr) (h5:st'.fits r') :
  ∃c',c'.w=c.w.putObj l (.loop r')/\c'.σ=c.σ.set id (.loop st' fr ps asg bd)/\Sr c'/\Nx fl c c':=
 ⟨c.put (c.w.putObj l (.loop r')) id (c.ρ id) (.loop st' fr ps asg bd),rfl,rfl,Sr.wP hs hd ho trivial trivial Ej hh Ce ⟨hr,r',rfl,h1,h2,h3,h4,h5⟩,Nx.wP hs hd ho trivial trivial Ej hfl hh Ce⟩
theorem TS{c:Cx}(hs:Sr c){id l:Nat}{st:HL}{fr:Jk}{ps:List Tmp}{asg bd:Code}{r r':Loop}(hd:c.D id)(ho:c.σ[id]?=some (.loop st fr ps asg bd))(hr:c.ρ id=.pointer (some ⟨l,0,none⟩))(hfl:fl<=id)
  (hh:c.w.heap[l]?=some (.loop r)):∃c',c'.w=c.w.putObj l (.loop r')/\c'.σ=c.σ.set id .none/\Sr c'/\Nx fl c c':=
 ⟨c.put (c.w.putObj l (.loop r')) id (c.ρ id) .none,rfl,rfl,Sr.wP hs hd ho trivial trivial Ej hh Ce trivial,Nx.wP hs hd ho trivial trivial Ej hfl hh Ce⟩
theorem aHK{code:uX}(h:TT P code){F:Fence}(hF:Open F P){id l:Nat}{args:Jk}{c:Cx}{vs:Jm}{p:PD}{σ':Jj}(hc:KN code fl id args c.σ=some (p,σ'))(hs:Sr c)(hX:Xw fl c)
  (hv:aZ c vs args) (hd:c.D id) (hr:c.ρ id=.pointer (some ⟨l,0,none⟩)) :
  ∃g tmps asg bd,(Instr.yield l vs.toArray).run P c.w=.ok (.round l g tmps asg bd) c.w/\∀m,RoundIn F m P l g tmps asg bd c.w (FH fl c p σ'):=by
 unfold KN at hc;split at hc
 .rename_i hfl;split at hc
  .rename_i fr pp asg bd hlo;split at hc
   .rename_i hlen;obtain⟨r,hh,hp,ha,hb,ht,hst⟩:=FF hs hd hlo hr;have hvl:=hv.1;refine⟨_,_,_,_,run_yield hh (by simp[hp,hvl,hlen]),λm=>?_⟩;have hFl:Open (F.inRound l) P:=⟨hF.fn,hF.depth,hF.name,hF.alive⟩;refine roundIn_of_wpIn (hF.fn _) ?_;split at hc
    .rename_i aX ms1 σ1 hassign;have hfr:aZ c ((r.params.zip vs.toArray).foldl (λtmps x=>tmps.setIfInBounds x.1 x.2) r.tmps).toList (FA fr pp args):=by
      rw[<-Array.foldl_toList,aBn,hp];simp only[Array.toList_zip];exact aBm pp vs args _ _ hv ht (by rw[hvl,hlen])
     have hno:mG c.σ[id]?:=by rw[hlo];trivial
     refine rJ.wpIn ?_;rw[ha];refine h (a:={ tmps:=_,defers:=[] }) hFl hassign hs hX ⟨hfr,hs.kM⟩ trivial (⟨l,rfl,hd,hno,hr⟩:C5 (F.inRound l) c (some id)) m _ λc1 a1 e1 hs1 lY jF pI=>?_
     simp only at e1 jF pI;simp only[PX.KI,Exit.then];obtain⟨er,aBo⟩:=lY.oF id hd hno;have rK:=lY.bQ id hd;have nS:=er.trans hr;split at hc
     .rename_i kU HI HJ HK hlo1;rw[<-e1]at hlo1;obtain⟨r1,hh1,sA,ha1,hb1,OU,aHL⟩:=FF hs1 rK hlo1 nS;refine⟨_,run_beginRound hh1 aHL.1,?_⟩;obtain⟨c2,w2,e2,hs2,iO⟩:=OT (fl:=fl) hs1 (st':=.busy) (r':={ r1 with state:=.busy }) rK hlo1 nS hfl hh1 sA ha1 hb1 OU rfl;have TR:mG c2.σ[id]?:=(iO.oF id rK aBo).2;have zL:=(iO.oF id rK aBo).1.trans nS;have jI:=iO.bQ id rK;rw[<-w2];split at hc
      .rename_i x fr2 ms2 σ2 hbody;rw[e1.symm,<-e2]at hbody;have TQ:=hX.next hs lY;refine rJ.wpIn ?_;rw[hb];refine h (a:=a1) hFl hbody hs2 (TQ.next hs1 iO) (FR.mono iO jF) (pI.mono iO) (⟨l,rfl,jI,TR,zL⟩:C5 (F.inRound l) c2 (some id)) m _ λc3 a3 e3 hs3 r9 _ _=>?_
       simp only at e3;have HM:=r9.bQ id jI;have tQ:=(r9.oF id jI TR).1.trans zL;have TU:Nx fl c c3:=lY.trans (iO.trans r9);split at hc
       .rename_i OV KO OW OX hlo3;rw[<-e3]at hlo3;obtain⟨r3,HN,TV,TW,hb3,TX,HO⟩:=FF hs3 HM hlo3 tQ;cases x with
        |normal=>
         simp only[yAb,yAc]at hc;obtain⟨rfl,rfl⟩:=hc;obtain⟨c4,w4,e4,C6,KP⟩:=OT (fl:=fl) hs3 (st':=.ready) (r':={ r3 with state:=.ready,pending:=none }) HM hlo3 tQ hfl HN TV TW hb3 TX ⟨rfl,rfl⟩;refine⟨_,_,run_endRound none HN,?_⟩;have:=Leaves.of (p:=.bool true) (v:=.bool true) C6 (TU.trans KP) (.bool true);rw[w4,e4,e3]at this;exact this
        |ret=>
         simp only[yAb,yAc]at hc;obtain⟨rfl,rfl⟩:=hc;obtain⟨c4,w4,e4,C6,KP⟩:=OT (fl:=fl) hs3 (st':=.done .ret) (r':={ r3 with state:=.done,pending:=some .ret }) HM hlo3 tQ hfl HN TV TW hb3 TX ⟨rfl,rfl⟩;refine⟨_,_,run_endRound (some .ret) HN,?_⟩;exact ni
        |exit k=>
         simp only[yAb,yAc]at hc;obtain⟨rfl,rfl⟩:=hc;obtain⟨c4,w4,e4,C6,KP⟩:=OT (fl:=fl) hs3 (st':=.done (.exit k)) (r':={ r3 with state:=.done,pending:=some (.exit k) }) HM hlo3 tQ hfl HN TV TW hb3 TX ⟨rfl,rfl⟩;refine⟨_,_,run_endRound (some (.exit k)) HN,?_⟩;exact ni
       .simp at hc
      .simp at hc
     .simp at hc
    .simp at hc
   .simp at hc
  .simp at hc
 .simp at hc
def aF(P:Program)(E:aE):Prop:=
 ∀ {F:Fence} {fl:Nat} {f:FuncId} {g:Je} {args:Jk} {c:Cx} {vs:Jm} {p:PD} {σ':Jj},Open F P->E f=some g->g fl args c.σ=some (p,σ')->Sr c->Xw fl c->aZ c vs args ->
   (∃fn,P.funcs[f]?=some fn/\fn.body.isSome=true)/\∀m,CallsIn F m P f vs.toArray c.w (FH fl c p σ')
theorem aBi{E:aE}{code:uX}(hE:aF P E)(h:TT P code){F:Fence}(hF:Open F P):Ok F P (tN P E code) where
 round:=λhc hs hX hv hd hr=>aHK h hF hc hs hX hv hd hr
 fn:=by
  intro fl f args c vs p σ' hc hs hX hv;simp only[tN]at hc;split at hc
  .rename_i g hg;exact hE hF hg hc hs hX hv
  .unfold FE at hc;split at hc
   .rename_i fn hfn;split at hc
    .rename_i bd hbd;refine⟨⟨fn,hfn,by simp[hbd]⟩,λm=>?_⟩;split at hc
     .rename_i r hr;have hF0:Open { F with round:=none } P:=⟨hF.fn,hF.depth,hF.name,hF.alive⟩;have key:CallsIn { F with round:=none } m P f vs.toArray c.w (FH fl c p σ'):=by
       refine callsIn_of_wp_marks hfn hbd (hF.fn f) (rJ.wpIn ?_);have hfr:aZ c (vs.toArray++Array.replicate (fn.ntmps-vs.toArray.size) undef).toList (args++List.replicate (fn.ntmps-args.length) (.aH [])):=by
        have e:(vs.toArray++Array.replicate (fn.ntmps-vs.toArray.size) undef).toList=vs++List.replicate (fn.ntmps-args.length) undef:=by simp[hv.1]
        rw[e];refine hv.append ⟨Ce,λi v d h1 h2=>?_⟩;rw[List.getElem?_replicate]at h1 h2;split at h1
        .simp only[yAb]at h1 h2;subst h1;rw[yAJ ‹_›]at h2;simp only[yAb]at h2;subst h2;exact VR.undef c
        .simp at h1
       refine h (a:={ tmps:=_,defers:=[] }) hF0 hr hs hX ⟨hfr,hs.kM⟩ trivial (rfl:C5 { F with round:=none } c none) m _ λc1 a1 e1 hs1 lY jF pI=>?_
       have leave:(∀k,r.x≠.exit k)->LeavesInM { F with round:=none } m P fn a1.tmps (FH fl c p σ') a1.defers .returning c1.w:=by
        intro hx;unfold bV at hc;have hc:(match A0 fl r.ms r.σ with
          |some σ=>match zH P r.fr σ fn.results.toList with
           |some ps=>some (FB ps,σ)
           |none=>none
          |none=>none)=some (p,σ'):=by
         split at hc
         .rename_i k hk;exact absurd hk (hx k)
         .exact hc
        split at hc
        .rename_i σ1 hdm;split at hc
         .rename_i qs hqs;simp only[yAb,yAc]at hc;obtain⟨rfl,rfl⟩:=hc;rw[<-e1]at hdm;refine aBl r.ms a1.defers c1 σ1 hdm hs1 pI λc2 e2 hs2 iO=>?_
          rw[<-e2]at hqs;obtain⟨v,rv,hvv⟩:=aHM (P:=P) hs2 (FR.mono iO jF) hqs;refine⟨v,rv,?_⟩;have:=Leaves.of hs2 (lY.trans iO) hvv;rw[e2]at this;exact this
         .simp at hc
        .simp at hc
       cases hx:r.x with
       |normal=>exact leave (by rw[hx];simp)
       |ret=>exact leave (by rw[hx];simp)
       |exit k=>exfalso;unfold bV at hc;rw[hx]at hc;simp at hc
      exact⟨key.1,key.2⟩
     .simp at hc
    .simp at hc
   .simp at hc
end
end
section
open Go.RowKit
section
variable{F:Fence}{P:Program}{call:dB}{fl:Nat}
theorem aBh(hF:Open F P)(hc:Ok F P call){c1:Cx}{id l n:Nat}{a a':Act}{g:Operand}{gf:FuncId}{cap fr:Jk}{ms:List Nat}{q:PD}{σ2:Jj}{r:PO}{Q:Exit->Act->World->Prop}
  (hs1:Sr c1) (TQ:Xw fl c1) (hd:c1.D id) (hρ:c1.ρ id=.pointer (some ⟨l,0,none⟩)) (hno:mG c1.σ[id]?) (hfl:fl<=id) (hg:VR c1 (a.eval g) (.func gf cap))
  (hcall:call fl (.inl gf) (.yield id::cap) c1.σ=some (q,σ2)) (hleave:KD id fr ms σ2=some r) (hf:FR c1 a' fr) (hm:MR c1 a'.defers ms)
  (hQ:∀mH qQ,mH.σ=r.σ->Sr mH->Nx fl c1 mH->FR mH qQ r.fr->MR mH qQ.defers r.ms->Q r.x.KI qQ mH.w) :
  ∃(d:Deferred) (w₁':World) (f:FuncId) (args:Array Value) (w₂:World),(resolve a.eval (rangeCall g l) 0).run P c1.w=.ok d w₁'/\(∀f',Target.leads P w₁' d.target d.args=some f'->F.fn f') /\
   (invoke d.target d.args).run P w₁'=.ok (.enter f args) w₂/\(F.depth.isSome=true->1<=n)/\CallsIn F (n-1) P f args w₂ (rangePost F n P l Q a'):=by
 obtain⟨cs,e,hcs⟩:=hg.KJ;have hy:VR c1 (.func (.yield l) #[] #[]) (.yield id):=.yield id l hd hno hρ;have hvs:aZ c1 (.func (.yield l) #[] #[]::cs) (.yield id::cap):=⟨by simpa using hcs.1,λi u d hu hd'=>by
  cases i with
  |zero=>simp at hu hd';subst hu hd';exact hy
  |succ i=>exact hcs.2 i u d Ht (by simpa using hd')⟩
 obtain⟨⟨fn,hfn,hb⟩,hcalls⟩:=hc.fn hcall hs1 TQ hvs;have hb':fn.body.isNone=false:=Hl;have hn:=hF.name gf fn hfn;refine⟨{ target:=.fn (.func gf) cs.toArray,args:=#[.func (.yield l) #[] #[]] },c1.w,gf,(.func (.yield l) #[] #[]::cs).toArray,c1.w,?_,λf' _=>hF.fn f',?_,hF.asks,yCE (hcalls _) λen w3 he=>?_⟩
 .simp only[rangeCall,resolve,e,Deferred.ofValue];simp[Act.eval]
 .have e2:(#[.func (.yield l) #[] #[]]++cs.toArray:Array Value)=(.func (.yield l) #[] #[]::cs).toArray:=by apply yCi;simp
  simp only[invoke,callFunc,yBb,run_program,hfn,hn,hb',yAx,yAN,yBo,yBg,e2]
 .cases en with
  |panicked ch=>exact he.elim
  |outgrown=>exact he.elim
  |returned v=>
   obtain⟨c2,rfl,e2,hs2,iO,_,_⟩:=he;have jI:=iO.bQ id hd;obtain⟨er,TR⟩:=iO.oF id hd hno;have oU:=er.trans hρ;unfold KD at hleave;rw[<-e2]at hleave;split at hleave
   .rename_i kU HI HJ HK hlo;simp only[yAb]at hleave;subst hleave;obtain⟨r2,hh,_,_,_,_,hst⟩:=FF hs2 jI hlo oU;obtain⟨c3,w3,e3,hs3,r9⟩:=TS (fl:=fl) (r':={ r2 with state:=.exhausted }) hs2 jI hlo oU hfl hh;refine⟨_,_,run_endLoop hh (by rw[hst.1];simp),?_⟩;rw[<-w3,hst.2];exact hQ c3 a' e3 hs3 (iO.trans r9) ((hf.mono iO).mono r9) ((hm.mono iO).mono r9)
   .rename_i kU HI HJ HK hlo;simp only[yAb]at hleave;subst hleave;obtain⟨r2,hh,_,_,_,_,hst⟩:=FF hs2 jI hlo oU;obtain⟨c3,w3,e3,hs3,r9⟩:=TS (fl:=fl) (r':={ r2 with state:=.exhausted }) hs2 jI hlo oU hfl hh;refine⟨_,_,run_endLoop hh (by rw[hst.1];simp),?_⟩;rw[<-w3,hst.2];exact wpIn_ret (hQ c3 a' e3 hs3 (iO.trans r9) ((hf.mono iO).mono r9) ((hm.mono iO).mono r9))
   .rename_i k kU HI HJ HK hlo;simp only[yAb]at hleave;subst hleave;obtain⟨r2,hh,_,_,_,_,hst⟩:=FF hs2 jI hlo oU;obtain⟨c3,w3,e3,hs3,r9⟩:=TS (fl:=fl) (r':={ r2 with state:=.exhausted }) hs2 jI hlo oU hfl hh;refine⟨_,_,run_endLoop hh (by rw[hst.1];simp),?_⟩;rw[<-w3,hst.2];exact wpIn_exit (hQ c3 a' e3 hs3 (iO.trans r9) ((hf.mono iO).mono r9) ((hm.mono iO).mono r9))
   .simp at hleave
theorem aHF(hF:Open F P)(hc:Ok F P call){rd:Option Nat}{gf:FuncId}{cap fr:Jk}{ps:Array Tmp}{assign body:Code}{ms:List Nat}{cx:Cx}{a:Act}{r:PO}{m:Nat}{Q:Exit->Act->World->Prop}{g:Operand}
  (h:KK call rd gf cap ps.toList assign body fl fr ms cx.σ=some r) (hs:Sr cx) (hX:Xw fl cx) (hf:FR cx a fr) (hm:MR cx a.defers ms) (hr:C5 F cx rd) (hg:VR cx (a.eval g) (.func gf cap))
  (hQ:∀mH qQ,mH.σ=r.σ->Sr mH->Nx fl cx mH->FR mH qQ r.fr->MR mH qQ.defers r.ms->Q r.x.KI qQ mH.w):(Code.rangeFunc g ps assign body).wpIn F m P Q a cx.w:=by
 refine wpIn_rangeFunc λfn _=>?_
 unfold KK at h;split at h
 .rename_i hfl;split at h
  ·
   split at h
   .rename_i q σ2 hcall;have hro:F.round=none:=hr;have g1:cx.w.grownBy (cx.w.alloc (.deferred (some []))) none:=zK _ _;have b1:∀b,bI (.pointer (some ⟨cx.w.heap.size,0,none⟩))=some b->cx.w.heap.size<=b/\b<(cx.w.alloc (.deferred (some []))).heap.size:=λb hb=>by simp[bI]at hb;subst hb;simp
    let c1:=cx.push (cx.w.alloc (.deferred (some []))) (.pointer (some ⟨cx.w.heap.size,0,none⟩)) .mark
    have hs1:Sr c1:=Sr.push hs g1 b1 ⟨_,rfl,yC _ _⟩;have lY:Nx fl cx c1:=Nx.push hs g1 (λb hb=>(b1 b hb).1);have l1:c1.σ.length=cx.σ.length+1:=by simp[c1,Cx.push]
    let uW:Loop:={ state:=.ready,pending:=none,fn,tmps:=a.tmps,params:=ps,assign,body,defers:=cx.w.heap.size }
    have g2:c1.w.grownBy (c1.w.alloc (.loop uW)) none:=zK _ _;have FG:c1.w.heap.size=cx.w.heap.size+1:=by show(cx.w.alloc _).heap.size=_;simp
    have b2:∀b,bI (.pointer (some ⟨cx.w.heap.size+1,0,none⟩))=some b->c1.w.heap.size<=b/\b<(c1.w.alloc (.loop uW)).heap.size:=λb hb=>by simp[bI]at hb;subst hb;simp[FG]
    have hnew:(c1.w.alloc (.loop uW)).heap[cx.w.heap.size+1]?=some (.loop uW):=by rw[<-FG];exact yC _ _
    let c2:=c1.push (c1.w.alloc (.loop uW)) (.pointer (some ⟨cx.w.heap.size+1,0,none⟩)) (.loop .ready fr ps.toList assign body)
    have hs2:Sr c2:=Sr.push hs1 g2 b2 ⟨_,_,rfl,hnew,by simp[uW],rfl,rfl,aZ.mono lY hf.1,⟨rfl,rfl⟩⟩;have iO:Nx fl c1 c2:=Nx.push hs1 g2 (λb hb=>(b2 b hb).1);have KL:=lY.trans iO;have bT:c2.σ=cx.σ++[.mark]++[.loop .ready fr ps.toList assign body]:=rfl;have pn:=iU (c:=c1) (w:=c1.w.alloc (.loop uW)) (v:=.pointer (some ⟨cx.w.heap.size+1,0,none⟩)) (o:=.loop .ready fr ps.toList assign body);rw[l1]at pn;rw[<-bT]at hcall;obtain⟨d,w₁',f,args,w₂,h1,h2,h3,h4,h5⟩:=aBh (n:=m) (a:=a) (a':={ a with defers:=[{ target:=.collected cx.w.heap.size,args:=#[] }]++a.defers }) (g:=g) (Q:=Q) hF hc hs2 (hX.next hs KL) pn.2.2 pn.2.1 (by rw[pn.1];trivial) Cd (hg.mono KL) hcall h (hf.mono KL)
     ⟨⟨_,rfl,iO.bQ _ (.inr rfl),by rw[wO (id:=cx.σ.length) hs1 (.inr rfl),iU.1];trivial,(p8 hs1 (.inr rfl)).trans iU.2.1⟩,hm.mono KL⟩
     (λmH qQ e1 q1 q2 q3 q4=>hQ mH qQ e1 q1 (KL.trans q2) q3 q4)
    refine⟨_,_,c2.w,d,w₁',f,args,w₂,?_,h1,h2,h3,h4,h5⟩;rw[hro];exact run_enterLoop_outer fn a.tmps ps assign body
   .exact ak
  ·
   rename_i id0;split at h
   .rename_i st0 kU HI HJ HK hlo0;split at h
    .rename_i q σ2 hcall;obtain⟨l0,hro,KM,aUM,aHG⟩:=hr;obtain⟨r0,hh0,_⟩:=FF hs KM hlo0 aHG
     let uW:Loop:={ state:=.ready,pending:=none,fn,tmps:=a.tmps,params:=ps,assign,body,defers:=r0.defers }
     have g2:cx.w.grownBy (cx.w.alloc (.loop uW)) none:=zK _ _;have b2:∀b,bI (.pointer (some ⟨cx.w.heap.size,0,none⟩))=some b->cx.w.heap.size<=b/\b<(cx.w.alloc (.loop uW)).heap.size:=λb hb=>by simp[bI]at hb;subst hb;simp
     let c2:=cx.push (cx.w.alloc (.loop uW)) (.pointer (some ⟨cx.w.heap.size,0,none⟩)) (.loop .ready fr ps.toList assign body)
     have hs2:Sr c2:=Sr.push hs g2 b2 ⟨_,_,rfl,yC _ _,by simp[uW],rfl,rfl,hf.1,⟨rfl,rfl⟩⟩;have iO:Nx fl cx c2:=Nx.push hs g2 (λb hb=>(b2 b hb).1);have bT:c2.σ=cx.σ++[.loop .ready fr ps.toList assign body]:=rfl;have pn:=iU (c:=cx) (w:=cx.w.alloc (.loop uW)) (v:=.pointer (some ⟨cx.w.heap.size,0,none⟩)) (o:=.loop .ready fr ps.toList assign body);rw[<-bT]at hcall;obtain⟨d,w₁',f,args,w₂,h1,h2,h3,h4,h5⟩:=aBh (n:=m) (a:=a) (a':={ a with defers:=[]++a.defers }) (g:=g) (Q:=Q) hF hc hs2 (hX.next hs iO) pn.2.2 pn.2.1 (by rw[pn.1];trivial) hfl (hg.mono iO) hcall h (hf.mono iO)
      (hm.mono iO) (λmH qQ e1 q1 q2 q3 q4=>hQ mH qQ e1 q1 (iO.trans q2) q3 q4)
     refine⟨_,_,c2.w,d,w₁',f,args,w₂,?_,h1,h2,h3,h4,h5⟩;rw[hro];unfold Instr.enterLoop;simp only[yBb,run_getLoop hh0,run_newObj_alloc,Result.andThen,yBo];rfl
    .exact ak
   .exact ak
 .exact ak
end
theorem aHH{P:Program}{E:aE}(hE:aF P E)(hP:P.follows .mixedOrders=true):∀n,TT P (jW P E n):=by
 intro n
 induction n with
 |zero=>intro F rd c fl fr ms cx r a hF h;simp[jW]at h
 |succ n ih=>
  intro F rd c fl fr ms cx r a hF h hs hX hf hm hr m Q hQ;have hc:Ok F P (tN P E (jW P E n)):=aBi hE ih hF;unfold jW at h;split at h
  .simp only[yAb]at h;subst h;exact wpIn_skip (hQ cx a rfl hs (.refl _ _) hf hm)
  .split at h
   .rename_i id ops _ fr' σ' hseq;simp only[yAb]at h;subst h;refine wpIn_region ?_;unfold C4 at hseq;rw[List.range_eq_range'];split at hseq
    .rename_i x hx;simp only[yAb]at hseq;subst hseq;have:=aBj (n:=m) (Q:=Q) hF hc ops.toList 0 Ce hs hX hf hx (λc' a' e1 q1 q2 q3 q4=>hQ c' a' e1 q1 q2 q3 (by rw[q4];exact hm.mono q2));exact cv
    .have:=aHI (n:=m) (Q:=Q) hF hc hs hX hf hseq (λc' a' e1 q1 q2 q3 q4=>hQ c' a' e1 q1 q2 q3 (by rw[q4];exact hm.mono q2));exact cv
   .exact ak
  .split at h
   .rename_i id ops _ fr' σ' hdr;simp only[yAb]at h;subst h;refine wpIn_region_any hP ?_;have hg:cx.w.grownBy cx.w.drew none:=grownBy_drew _;have nx:Nx fl cx (cx.at cx.w.drew):=Nx.grow hs hg;exact aHJ (n:=m) (c0:=cx.at cx.w.drew) hF hc (Sr.grow hs hg) (hX.next hs nx) (hf.mono nx) hdr (λc' a' e1 q1 q2 q3 q4=>hQ c' a' e1 q1 (nx.trans q2) q3 (by rw[q4];exact(hm.mono nx).mono q2))
   .exact ak
  .rename_i x y;refine wpIn_seq ?_;split at h
   .rename_i aX ms1 σ1 hx;refine rJ.wpIn (ih hF hx hs hX hf hm hr m _ λc1 a1 e1 hs1 lY jF pI=>?_);simp only at e1 jF pI;rw[<-e1]at h;exact rJ.wpIn (ih hF h hs1 (hX.next hs lY) jF pI (hr.mono lY) m _ λc2 a2 e2 hs2 iO nM hm2=>hQ c2 a2 e2 hs2 (lY.trans iO) nM hm2)
   .exact gv
  .rename_i g x y;split at h
   .rename_i hg;exact wpIn_cond_true (eW hf hg).AZ (rJ.wpIn (ih hF h hs hX hf hm hr m Q hQ))
   .rename_i hg;exact wpIn_cond_false (eW hf hg).AZ (rJ.wpIn (ih hF h hs hX hf hm hr m Q hQ))
   .exact ak
  .rename_i id b;refine wpIn_block ?_;split at h
   .rename_i k aX ms1 σ1 hx;simp only[yAb]at h;subst h;refine rJ.wpIn (ih hF hx hs hX hf hm hr m _ λc1 a1 e1 hs1 lY jF pI=>?_);have:=hQ c1 a1 e1 hs1 lY jF pI;simp only[PX.KI,Exit.inBlock]
    by_cases hk:k=id
    .simp only[hk,yAK]at this ⊢;exact this
    .simp only[hk,yAN]at this ⊢;exact this
   .rename_i hne;refine rJ.wpIn (ih hF h hs hX hf hm hr m _ λc1 a1 e1 hs1 lY jF pI=>?_);have:=hQ c1 a1 e1 hs1 lY jF pI;obtain⟨x',aX,ms1,σ1⟩:=r;cases x' with
    |normal=>exact this
    |ret=>exact this
    |exit k=>exact absurd h (hne _ _ _ _)
  .rename_i b;show BA F m P b Q a cx.w
   refine BA.round ?_;split at h
   .rename_i aX ms1 σ1 hx;refine rJ.wpIn (ih hF hx hs hX hf hm hr m _ λc1 a1 e1 hs1 lY jF pI=>?_);simp only at e1 jF pI;rw[<-e1]at h;exact ih hF h hs1 (hX.next hs lY) jF pI (hr.mono lY) m Q λc2 a2 e2 hs2 iO nM hm2=>hQ c2 a2 e2 hs2 (lY.trans iO) nM hm2
   .exact gv
  .rename_i g ps assign body;split at h
   .rename_i gf cap hg;exact aHF hF hc h hs hX hf hm hr (eW hf hg) hQ
   .exact ak
  .simp only[yAb]at h;subst h;exact wpIn_exit (hQ cx a rfl hs (.refl _ _) hf hm)
  .simp only[yAb]at h;subst h;exact wpIn_ret (hQ cx a rfl hs (.refl _ _) hf hm)
  .exact ak
theorem CX{P:Program}{E:aE}(hE:aF P E)(hP:P.follows .mixedOrders=true){F:Fence}(hF:Open F P)(n:Nat):Ok F P (fG P E n):=aBi hE (aHH hE hP n) hF
end
end Go.Kz
end
