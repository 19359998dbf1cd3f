/- Steps of the proof. -/
import Derived.Lib.AppendZerosOnto
import Derived.Test.YteegpeenjdgodaaGreatDoorS1
import Derived.OrdersIn
set_option linter.all false
set_option maxHeartbeats 40000000
set_option maxRecDepth 100000
noncomputable section
namespace Go.Kz
section
open Go.RowKit
section
variable{P:Program}{c:Cx}{fl:Nat}
theorem yR(n:Nat):∀(k:Nat) (cs:List PD),(qO n k cs).length=k
 |0,_=>rfl
 |k+1,cs=>by simp[qO,yR n k]
theorem H4(n:Nat):∀(k:Nat) (cs:List PD),k*n<=cs.length->(qO n k cs).flatMap PD.cells=cs.take (k*n)
 |0,_,_=>by simp[qO]
 |k+1,cs,h=>by
  have h':k*n+n<=cs.length:=by rw[yBu]at h;omega
  rw[qO,yBs,H4 n k (cs.drop n) zf];show cs.take n++(cs.drop n).take (k*n)=_
  rw[yBu,Nat.one_mul,yDp (k*n) n,List.take_add]
theorem MG(n:Nat):∀(k:Nat) (cs:List PD),k*n<=cs.length->∀x∈qO n k cs,x.cells.length=n
 |0,_,_,x,hx=>by simp[qO]at hx
 |k+1,cs,h,x,hx=>by
  have h':k*n+n<=cs.length:=by rw[yBu]at h;omega
  rw[qO]at hx;rcases yBD.1 hx with rfl|hx
  .simp[PD.cells];omega
  .exact MG n k (cs.drop n) zf x hx
theorem aG7(hs:Sr c){x:PD}{sz:Nat}{ys:Ey}(h:u6 c.σ x=some (sz,ys)){vx:Value}(hx:VR c vx x):∃B cap fly,vx=.slice B ys.length cap/\ys.length<=cap/\(∀y∈ys,y.cells.length=sz)/\fly.length=ys.length*sz/\(∀v∈fly,v.oneCell'=true) /\
  (∀(j:Nat) (v:Value),fly[j]?=some v->∃ad,B=some ad/\c.w.cell? (ad.add j)=some v)/\aS c fly (ys.flatMap PD.cells):=by
 unfold u6 at h;split at h
 .rename_i kP ys0 tok;simp only[yAb,yAc]at h;obtain⟨rfl,rfl⟩:=h;obtain⟨A,cap,fly,rfl,a1,a2,a3,a4,a5,a6,a7,a8⟩:=hx.nS;refine⟨A,cap,fly,rfl,a1,a3,a4,a5,λj v hj=>?_,by rw[a4,CZ _ a3],a7⟩;exact jr
 .rename_i id ver off n kP;split at h
  .rename_i e sz' eX cs hq;split at h
   .rename_i hc;obtain⟨rfl,rfl,hle⟩:=hc;simp only[yAb,yAc]at h;obtain⟨rfl,rfl⟩:=h;obtain⟨b,cap,rfl,hp,h1,h2⟩:=hx.AU;obtain⟨_,C,q2,q3⟩:=(hp.2 e _ _ cs hq).2 rfl;obtain⟨b',C',cur,e1,e2,e3,e4,e5,e6,e7,e8⟩:=hs.row id e _ _ cs hp.1 hq;rw[q2]at e1;simp only[yBM,yAb,yBJ,yBn,yCJ]at e1;obtain⟨rfl,rfl⟩:=e1;have hdl:n*sz'<=(cs.drop off).length:=zf;have hlen:(((cur.toList.take cs.length).drop off).take (n*sz')).length=n*sz':=zf;refine⟨some ⟨b,off,none⟩,cap,((cur.toList.take cs.length).drop off).take (n*sz'),by rw[yR],by rw[yR];exact h1,MG _ _ _ hdl,by rw[hlen,yR],?_,?_,?_⟩
    .intro v hv;exact e8 v (yAy (yBg (yAy hv)))
    .intro j v hj;refine⟨_,rfl,?_⟩;rw[sM];simp only[World.cell?,e2];rw[yAv]at hj;split at hj
     .rw[yBl,yAv]at hj;split at hj
      .simpa using hj
      .cases hj
     .cases hj
    .rw[H4 _ _ _ hdl];exact e7.take_drop off (n*sz')
   .cases h
  .cases h
 .rename_i id off n kP;split at h
  .rename_i q hq;split at h
   .rename_i hle;simp only[yAb,yAc]at h;obtain⟨rfl,rfl⟩:=h;obtain⟨b,cap,rfl,hD,_,hr,h1,h2⟩:=hx.CV;obtain⟨b',cur,T,e1,e2,e3,e4⟩:=hs.box id q hD hq;rw[hr]at e1;simp only[yCK,yAb,yBJ,yBn]at e1;subst e1;have hdl:n*kP<=(q.cells.drop off).length:=zf;have hcl:cur.toList.length=q.cells.length:=e3.1;have hlen:((cur.toList.drop off).take (n*kP)).length=n*kP:=by rw[yAt,yBd];omega
    refine⟨some ⟨b,off,none⟩,cap,(cur.toList.drop off).take (n*kP),by rw[yR],by rw[yR];exact h1,MG _ _ _ hdl,by rw[hlen,yR],?_,?_,?_⟩
    .intro v hv;exact e4.1 v (yBg (yAy hv))
    .intro j v hj;refine⟨_,rfl,?_⟩;rw[sM];simp only[World.cell?,e2];rw[yAv]at hj;split at hj
     .exact iz
     .cases hj
    .rw[H4 _ _ _ hdl];exact e3.take_drop off (n*kP)
   .cases h
  .cases h
 .cases h
theorem MH{zs:Fb}(h:∀v∈zs.toList,v.oneCell'=true)(h0:0<zs.size)(n:Nat):∀v∈(Builtin.zeroCells zs n).toList,v.oneCell'=true:=by
 intro v hv;simp only[Builtin.zeroCells,yDq,yDr,yAw]at hv;obtain⟨k,_,rfl⟩:=hv;have j7:k%zs.size<zs.size:=yBw _ h0;apply h;simp[j7]
theorem aG8{w:World}{t ty e:TypeId}{i:TypeInfo}{z:Value}(hu:P.underlying t=some (.slice e))(hi:P.info? e=some i)(hz:i.zero=some z)(hzs:z.cells.size=i.size)(hpos:0<i.size)(hz1:∀v∈z.cells.toList,v.oneCell'=true)
  {A B:Option Addr} {n cap m c':Nat} {flx fly:Fa} (hA:A=none->n=0/\cap=0) (hlx:flx.length=n*i.size) (hx:∀(j:Nat) (v:Value),flx[j]?=some v->∃ad,A=some ad/\w.cell? (ad.add j)=some v)
  (hly:fly.length=m*i.size) (hy:∀(j:Nat) (v:Value),fly[j]?=some v->∃ad,B=some ad/\w.cell? (ad.add j)=some v) (H8:∀v∈flx,v.oneCell'=true) (RC:∀v∈fly,v.oneCell'=true) (hm:0<m) (hcap:cap<n+m) (hmax:n+m<=maxLen) (hby:(n+m)*i.bytes<=140737488355328) :
  ∃C cur w',(Builtin.append_ #[t,t] ty #[.slice A n cap,.slice B m c']).run P w=.ok (.slice (some ⟨w.heap.size,0,none⟩) (n+m) C) w'/\w.grownBy w' none/\w'.heap[w.heap.size]?=some (.cells cur e (0,0))/\cur.size=C*i.size /\
   n+m<=C/\C<=maxLen/\(∀v∈cur.toList,v.oneCell'=true)/\∃rest,cur.toList=flx++fly++rest:=by
 have RD:0<fly.length:=by rw[hly];exact yCX hm hpos
 obtain⟨bd,rfl,_⟩:=hy 0 fly[0] (by simp[RD]);have hnews:∀(j:Nat) (u:Value),fly[j]?=some u->w.cell? (bd.add j)=some u:=λj u hj=>by
  obtain⟨ad,e',h9⟩:=hy j u hj;exact ji
 have fin:∀old,old<n+m->w.grownBy (w.drew.alloc (.cells (flx.toArray++fly.toArray++Builtin.zeroCells z.cells (grownCap w (n+m) old e-(n+m))) e)) none /\
   (w.drew.alloc (.cells (flx.toArray++fly.toArray++Builtin.zeroCells z.cells (grownCap w (n+m) old e-(n+m))) e)).heap[w.heap.size]?=some (.cells (flx.toArray++fly.toArray++Builtin.zeroCells z.cells (grownCap w (n+m) old e-(n+m))) e (0,0)) /\
   (flx.toArray++fly.toArray++Builtin.zeroCells z.cells (grownCap w (n+m) old e-(n+m))).size=grownCap w (n+m) old e*i.size/\n+m<=grownCap w (n+m) old e/\grownCap w (n+m) old e<=maxLen /\
   (∀v∈(flx.toArray++fly.toArray++Builtin.zeroCells z.cells (grownCap w (n+m) old e-(n+m))).toList,v.oneCell'=true)/\∃rest,(flx.toArray++fly.toArray++Builtin.zeroCells z.cells (grownCap w (n+m) old e-(n+m))).toList=flx++fly++rest:=by
  intro old ho;have hge:=yDs w (n+m) old e;have hcm:grownCap w (n+m) old e<=maxLen:=yDN w (n+m) old e hmax;refine⟨⟨rfl,rfl,rfl,yg,λk hk _=>yDt w.drew _ hk⟩,yBW w.drew _,?_,hge,hcm,?_,_,by simp only[yDO];rfl⟩
  .simp only[yDP,yCq,yDu,hzs,hlx,hly,<-yBu]
   congr 1
   omega
  .intro v hv;simp only[yDO,yBf]at hv;rcases hv with(hv|hv)|hv
   .exact H8 v hv
   .exact RC v hv
   .exact MH hz1 ye _ v hv
 cases A with
 |none=>
  obtain⟨rfl,rfl⟩:=hA rfl;have H9:flx=[]:=yAf (by rw[hlx];simp);subst H9;have hr:=run_append_nil (P:=P) w t ty e i z hu hi hz bd m c' fly hly hnews ye Cs (by have hb:=hby;simp only[yAp]at hb;omega);have:=fin 0 ye;simp only[yAp,yAO,Array.empty_append]at this ⊢;exact⟨_,_,_,hr,this⟩
 |some ad=>
  have holds:∀(j:Nat) (u:Value),flx[j]?=some u->w.cell? (ad.add j)=some u:=λj u hj=>by
   obtain⟨IA,e',h9⟩:=hx j u hj;exact ji
  have hr:=run_append_grow (P:=P) w t ty e i z hu hi hz ad n cap flx hlx holds bd m c' fly hly hnews hcap Cs (growslice_fits hcap hby);exact⟨_,_,_,hr,fin cap hcap⟩
theorem aG9{w:World}{t ty e:TypeId}{i:TypeInfo}(hu:P.underlying t=some (.slice e))(hi:P.info? e=some i){b off n cap m c':Nat}{B:Option Addr}{fly:Fa}
  (hly:fly.length=m*i.size) (hy:∀(j:Nat) (v:Value),fly[j]?=some v->∃ad,B=some ad/\w.cell? (ad.add j)=some v) (hroom:n+m<=cap) :
  (Builtin.append_ #[t,t] ty #[.slice (some ⟨b,off,none⟩) n cap,.slice B m c']).run P w=Result.andThen ((storeCells ⟨b,off+n*i.size,none⟩ fly).run P w) (λ_ w'=>.ok (.slice (some ⟨b,off,none⟩) (n+m) cap) w'):=by
 have hf:(Builtin.firstCells i.size m (.slice B m c')).run P w=.ok fly.toArray w:=by
  cases B with
  |none=>
   have:fly=[]:=by
    cases fly with
    |nil=>rfl
    |cons x xs=>obtain⟨_,e',_⟩:=hy 0 x rfl;cases e'
   exact ou
  |some bd=>
   simp only[Builtin.firstCells];exact AV hly λj v hj=>by
    obtain⟨ad,e',h9⟩:=hy j v hj;exact ji
 simp[Builtin.append_,yAM hu,sizeOf,typeInfo,hi,Builtin.lenOf,hroom,hf,sM]
structure aHa (P:Program) (w:World) (t u ty e:TypeId) (i:TypeInfo) (vx:Value) (m:Nat) (fly:List Value):Prop where
 none_:m=0->∀(A:Option Addr) (n cap:Nat),n<=cap->(Builtin.append_ #[t,u] ty #[.slice A n cap,vx]).run P w=.ok (.slice A n cap) w
 grow:0<m->∀(A:Option Addr) (n cap:Nat) (flx:List Value),(A=none->n=0/\cap=0)->flx.length=n*i.size->(∀(j:Nat) (v:Value),flx[j]?=some v->∃ad,A=some ad/\w.cell? (ad.add j)=some v)->(∀v∈flx,v.oneCell'=true) ->
  cap<n+m->n+m<=maxLen->(n+m)*i.bytes<=140737488355328 ->
  ∃C cur w',(Builtin.append_ #[t,u] ty #[.slice A n cap,vx]).run P w=.ok (.slice (some ⟨w.heap.size,0,none⟩) (n+m) C) w'/\w.grownBy w' none/\w'.heap[w.heap.size]?=some (.cells cur e (0,0))/\cur.size=C*i.size /\
   n+m<=C/\C<=maxLen/\(∀v∈cur.toList,v.oneCell'=true)/\∃rest,cur.toList=flx++fly++rest
 room:∀(b off n cap:Nat),n+m<=cap->(Builtin.append_ #[t,u] ty #[.slice (some ⟨b,off,none⟩) n cap,vx]).run P w=Result.andThen ((storeCells ⟨b,off+n*i.size,none⟩ fly).run P w) (λ_ w'=>.ok (.slice (some ⟨b,off,none⟩) (n+m) cap) w')
theorem aHb(hs:Sr c){fn:Nat}{t u ty:TypeId}{s x p:PD}{σ':Ex}(h:cX P fn fl c.σ t s x=some (p,σ')){vs vx:Value}(hvs:VR c vs s)
  (hsrc:∀e i z sz' ys,P.underlying t=some (.slice e)->u6 c.σ x=some (sz',ys)->P.info? e=some i->i.zero=some z->z.cells.size=i.size->0<i.size->(∀v∈z.cells.toList,v.oneCell'=true)->(ys.length=0\/sz'=i.size) ->
   ∃fly:List Value,fly.length=ys.length*i.size/\(∀v∈fly,v.oneCell'=true)/\aS c fly (ys.flatMap PD.cells)/\aHa P c.w t u ty e i vx ys.length fly) :
  ∃v w',(Builtin.append_ #[t,u] ty #[vs,vx]).run P c.w=.ok v w'/\Leaves fl c p σ' v w':=by
 unfold cX at h;split at h
 rotate_left
 .cases h
 split at h
 rotate_left
 .cases h
 rename_i e sz' ys hu hw;split at h
 rotate_left
 .cases h
 rename_i i hi;split at h
 rotate_left
 .cases h
 rename_i z hz;split at h
 rotate_left
 .cases h
 rename_i hc;obtain⟨FC,hpos,hzs,hz1⟩:=hc;have hz1:∀v∈z.cells.toList,v.oneCell'=true:=λv hv=>yAn.1 hz1 v hv
 obtain⟨fly,hly,b4,b6,hS⟩:=hsrc e i z sz' ys hu hw hi hz hzs hpos hz1 FC;split at h
 ·
  rename_i sz xs tok;split at h
  rotate_left
  .cases h
  rename_i hc;obtain⟨hsz,hmax,hby,htok⟩:=hc;obtain⟨A,cap,flx,rfl,a1,a2,a3,a4,a5,a6,a7,a8⟩:=hvs.nS;have hcells:∀(j:Nat) (v:Value),flx[j]?=some v->∃ad,A=some ad/\c.w.cell? (ad.add j)=some v:=λj v hj=>by
   exact jr
  split at h
  .rename_i h0;simp only[yAb,yAc]at h;obtain⟨rfl,rfl⟩:=h;exact⟨.slice A xs.length cap,c.w,hS.none_ h0 A xs.length cap a1,c,rfl,rfl,hs,.refl _ _,hvs,λ_ h=>.inl h⟩
  .rename_i h0;simp only[yAb,yAc]at h;obtain⟨rfl,rfl⟩:=h;have hcapn:xs.length=cap:=by
    cases tok<;>first|(simp[Tok.fresh]at htok;done)|(simp only[qP]at a8;omega)
   have hlx:flx.length=xs.length*i.size:=by
    exact tc
   have hA:A=none->xs.length=0/\cap=0:=by
    rintro rfl
    have hx0:xs.length=0:=by
     rcases yEb xs.length with h0|h0
     .exact h0
     .have:0<flx.length:=by rw[hlx];exact yCX h0 hpos
      exact sw
    exact⟨hx0,ye⟩
   obtain⟨C,cur,w',r,g1,g2,g3,g4,g5,g6,rest,g7⟩:=hS.grow (yCY h0) A xs.length cap flx hA hlx hcells a5 ye hmax hby;have hcl:((xs++ys).flatMap PD.cells).length=(flx++fly).length:=by
    rw[yEc,yAa,yAa,CZ xs a3,b6.1,a4]
   have hvr:aS c (cur.toList.take ((xs++ys).flatMap PD.cells).length) ((xs++ys).flatMap PD.cells):=by
    rw[hcl,g7,yCr,yEc];exact aS.append ⟨by rw[CZ xs a3,a4],a7⟩ b6
   have hcs:((xs++ys).flatMap PD.cells).length<=cur.size:=by
    rw[hcl];have:=yAL List.length g7;simp at this ⊢;omega
   have hbk:∀b,aY (.slice (some ⟨c.w.heap.size,0,none⟩) 0 C)=some b->c.w.heap.size<=b:=λb hb=>Cy
   refine⟨_,w',r,c.push w' (.slice (some ⟨c.w.heap.size,0,none⟩) 0 C) (.row e i.size 0 ((xs++ys).flatMap PD.cells)),rfl,rfl,?_,Nx.push hs g1 hbk,?_,?_⟩
   .refine Sr.push hs g1 (λb hb=>⟨hbk b hb,?_⟩) ⟨_,C,cur,rfl,g2,g3,g5,hpos,hcs,hvr,g6⟩;simp[aY]at hb;subst hb;exact fM g2
   .refine .aU _ _ _ _ _ _ _ ⟨.inr rfl,λe' kP v' cs hq=>?_⟩ g4 g5;rw[gC.1]at hq;simp only[yAb,aB.row.injEq]at hq;obtain⟨rfl,rfl,rfl,rfl⟩:=hq;exact⟨yAk _,λ_=>⟨rfl,C,gC.2.1,yg⟩⟩
   .exact bx
 ·
  rename_i id ver off n sz;split at h
  rotate_left
  .cases h
  rename_i hc;obtain⟨hfl,rfl,hmax,hby⟩:=hc;split at h
  rotate_left
  .cases h
  rename_i e' kP eX cs hq;split at h
  rotate_left
  .cases h
  rename_i hc;obtain⟨rfl,rfl,rfl⟩:=hc;obtain⟨b,cap,rfl,hp,h1,h2⟩:=hvs.AU;obtain⟨_,C,hr,hCo⟩:=(hp.2 _ _ _ cs hq).2 rfl;have hbase:=hs.row id _ _ _ cs hp.1 hq;obtain⟨b',C',cur,e1,e2,e3,e4,e5,e6,e7,e8⟩:=hbase;rw[hr]at e1;simp only[yBM,yAb,yBJ,yBn,yCJ]at e1;obtain⟨rfl,rfl⟩:=e1;split at h
  ·
   rename_i hin;simp only[yAb,yAc]at h;obtain⟨rfl,rfl⟩:=h;have hroom:n+ys.length<=cap:=by
    have:(n+ys.length)*i.size<=cap*i.size:=ye;exact Nat.le_of_mul_le_mul_right this hpos
   obtain⟨w',hst,hs',hn'⟩:=aAd (P:=P) (fl:=fl) hs hp.1 hq hr b6 b4 (off:=off+n*i.size) (by rw[<-b6.1,hly];rw[yBu]at hin;omega) hfl;refine⟨.slice (some ⟨b,off,none⟩) (n+ys.length) cap,w',?_,_,rfl,rfl,hs',hn',?_,λi hi=>.inl hi⟩
   .rw[hS.room b off n cap hroom,hst];rfl
   .exact .aU _ _ _ _ _ _ _ (hp.mY hn'.RE) hroom h2
  .split at h
   rotate_left
   .cases h
   rename_i hc;obtain⟨rfl,hn⟩:=hc;simp only[yAb,yAc]at h;obtain⟨rfl,rfl⟩:=h;have hcapC:cap=C:=yEd hpos ye;subst hcapC;have hyp:ys.length≠0:=λh0=>by
    rename_i hin;rw[h0,yBt,yAp]at hin;omega
   by_cases hroom:n+ys.length<=cap
   .have hfit:cs.length+fly.length<=cur.size:=by
     rw[e3,hly,<-hn,<-yBu];exact yBK _ hroom
    have hst:=yCZ (P:=P) b (0+n*i.size) _ fly 0 cur c.w e2 ye b4;simp only[yBt,yAp]at hst;have hrun:=hS.room b 0 n cap hroom;rw[yAp,hst]at hrun;have hk:∀k,k<c.w.heap.size->aY (c.ρ id)≠some k->(c.w.setRow b (List.take (n*i.size) cur.toList++fly++List.drop (n*i.size+fly.length) cur.toList).toArray).heap[k]?=c.w.heap[k]?:=
     λk _ hk=>yBN _ _ _ _ (λh=>hk (by rw[hr,h];rfl))
    have hcr:(List.take (n*i.size) cur.toList++fly++List.drop (n*i.size+fly.length) cur.toList).length=cur.size:=zf;have hall:∃b0 C0 lE,c.ρ id=.slice (some ⟨b0,0,none⟩) 0 C0/\(c.w.setRow b (List.take (n*i.size) cur.toList++fly++List.drop (n*i.size+fly.length) cur.toList).toArray).heap[b0]?=some (.cells lE e' (0,0))/\lE.size=C0*i.size/\C0<=maxLen/\0<i.size /\
      (cs++ys.flatMap PD.cells).length<=lE.size/\aS c (lE.toList.take (cs++ys.flatMap PD.cells).length) (cs++ys.flatMap PD.cells)/\∀v∈lE.toList,v.oneCell'=true:=by
     refine⟨b,cap,_,hr,yBU _ _ cur _ e' (0,0) e2,by simpa using hcr.trans e3,e4,hpos,?_,?_,MI e8 b4 _ _⟩
     .rw[yAa,<-b6.1,yCq,hcr];exact hfit
     .show aS c (List.take _ (List.take (n*i.size) cur.toList++fly++List.drop (n*i.size+fly.length) cur.toList)) _
      rw[show(cs++ys.flatMap PD.cells).length=(List.take (n*i.size) cur.toList++fly).length by
       rw[yAa,yAa,b6.1,yAt,hn];have:cs.length<=cur.toList.length:=by simpa using e6
       omega]
      rw[yCr,hn];exact e7.append b6
    refine⟨.slice (some ⟨b,0,none⟩) (n+ys.length) cap,_,hrun,c.put _ id (c.ρ id) (.row e' i.size (eX+1) (cs++ys.flatMap PD.cells)),rfl,rfl,Sr.putRow hs hp.1 hq (yCs _) (λh=>rfl) ⟨rfl,rfl,rfl,yg⟩ hk (.inl rfl) hall,
     Nx.putRow hs hp.1 hq hfl (yCs _) (λh=>rfl) ⟨rfl,rfl,rfl,yg⟩ hk (.inl rfl),?_,λi hi=>.inl hi⟩
    refine .aU _ _ _ _ _ _ _ ⟨hp.1,λe0 CT v1 AW hq1=>?_⟩ hroom h2;exact gv
   .have hcut:(cur.toList.take cs.length).length=n*i.size:=by
     rw[yAt,<-hn];have:n*i.size<=cur.toList.length:=by rw[hn];simpa using e6
     omega
    obtain⟨C2,IB,w',r,g1,g2,g3,g4,g5,g6,rest,g7⟩:=hS.grow (yCY hyp) (some ⟨b,0,none⟩) n cap (cur.toList.take cs.length) (λh=>yw) hcut (λj v hj=>by
      refine⟨_,rfl,?_⟩;rw[sM];simp only[World.cell?,e2];rw[yAv]at hj;split at hj
      .simpa using hj
      .cases hj) (λv hv=>e8 v (yAy hv)) ye hmax hby
    have hbk:∀b0,aY (.slice (some ⟨c.w.heap.size,0,none⟩) 0 C2)=some b0->c.w.heap.size<=b0:=λb hb=>Cy
    have hlen:(cs++ys.flatMap PD.cells).length=(cur.toList.take cs.length++fly).length:=by rw[yAa,yAa,<-b6.1,hcut,hn]
    have hall:∃b0 C0 lE,Value.slice (some ⟨c.w.heap.size,0,none⟩) 0 C2=.slice (some ⟨b0,0,none⟩) 0 C0/\w'.heap[b0]?=some (.cells lE e' (0,0))/\lE.size=C0*i.size/\C0<=maxLen/\0<i.size /\
      (cs++ys.flatMap PD.cells).length<=lE.size/\aS c (lE.toList.take (cs++ys.flatMap PD.cells).length) (cs++ys.flatMap PD.cells)/\∀v∈lE.toList,v.oneCell'=true:=by
     refine⟨c.w.heap.size,C2,IB,rfl,g2,g3,g5,hpos,?_,?_,g6⟩
     .rw[hlen];have:=yAL List.length g7;exact og
     .rw[hlen,g7,yCr];exact e7.append b6
    have hk:∀k,k<c.w.heap.size->aY (c.ρ id)≠some k->w'.heap[k]?=c.w.heap[k]?:=λk hk _=>g1.block k hk yg
    have h0:w'.os=c.w.os/\w'.tape=c.w.tape/\w'.output=c.w.output/\c.w.heap.size<=w'.heap.size:=⟨g1.os,g1.tape,g1.output,g1.size⟩;refine⟨_,w',r,c.put w' id (.slice (some ⟨c.w.heap.size,0,none⟩) 0 C2) (.row e' i.size (eX+1) (cs++ys.flatMap PD.cells)),rfl,rfl,Sr.putRow hs hp.1 hq (yCs _) (λh=>ye) h0 hk (.inr hbk) hall,
     Nx.putRow hs hp.1 hq hfl (yCs _) (λh=>ye) h0 hk (.inr hbk),?_,λi hi=>.inl hi⟩
    refine .aU _ _ _ _ _ _ _ ⟨hp.1,λe0 CT v1 AW hq1=>?_⟩ g4 g5;exact iu
 .cases h
theorem aG1(hs:Sr c){fn:Nat}{t:TypeId}{s x p:PD}{σ':Ex}(h:cX P fn fl c.σ t s x=some (p,σ')){vs vx:Value}(hvs:VR c vs s)(hvx:VR c vx x)(ty:TypeId) :
  ∃v w',(Builtin.append_ #[t,t] ty #[vs,vx]).run P c.w=.ok v w'/\Leaves fl c p σ' v w':=by
 refine aHb hs h hvs λe i z sz' ys hu hw hi hz hzs hpos hz1 FC=>?_
 obtain⟨B,cx,fly,rfl,b1,b2,b3,b4,b5,b6⟩:=aG7 hs hw hvx;have hly:fly.length=ys.length*i.size:=by
  rcases FC with h0|h0
  .rw[b3,h0];simp
  .rw[b3,h0]
 refine⟨fly,hly,b4,b6,λh0 A n cap hn=>?_,λhm A n cap flx hA hlx hx H8 hcap hmax hby=>aG8 hu hi hz hzs hpos hz1 hA hlx hx hly b5 H8 b4 hm hcap hmax hby,λb off n cap hroom=>aG9 hu hi hly b5 hroom⟩;have hfy:fly=[]:=yAf (by rw[hly,h0];simp);subst hfy;have hfy:(Builtin.firstCells i.size 0 (.slice B 0 cx)).run P c.w=.ok #[] c.w:=by
  cases B<;>simp[Builtin.firstCells,loadCells,loadCellsFrom]
 rw[h0];exact oq
theorem aG4(hs:Sr c){n:Nat}{t u:TypeId}{s p:PD}{m:Int}{σ':Ex}(hst:P.underlying u=some (.int .i64))(h:ES P n c.σ t s m=some (p,σ')){vs:Value}(hvs:VR c vs s)(ty:TypeId) :
  ∃v w',(Builtin.append_ #[t,u] ty #[vs,.int .i64 m]).run P c.w=.ok v w'/\Leaves fl c p σ' v w':=by
 unfold ES at h;cases h
theorem aGW(hs:Sr c){t:TypeId}{s:PD}{σ':Ex}(h:RF P fl c.σ t s=some σ'){vs:Value}(hvs:VR c vs s)(ty:TypeId) :
  ∃v w',(Builtin.clear_ #[t] ty #[vs]).run P c.w=.ok v w'/\Leaves fl c (.aP []) σ' v w':=by
 unfold RF at h;cases h
theorem aGX(hs:Sr c){dt st:TypeId}{d x p:PD}{σ':Ex}(h:RG P fl c.σ dt st d x=some (p,σ')){vd vx:Value}(hd:VR c vd d)(hx:VR c vx x)(ty:TypeId) :
  ∃v w',(Builtin.copy_ #[dt,st] ty #[vd,vx]).run P c.w=.ok v w'/\Leaves fl c p σ' v w':=by
 unfold RG at h;cases h
theorem bytes_beq(a b:List UInt8):(ByteArray.mk a.toArray==ByteArray.mk b.toArray)=(a==b):=by
 have h:(ByteArray.mk a.toArray==ByteArray.mk b.toArray)=(a.toArray==b.toArray):=rfl;rw[h];simp
def IC(d:TypeDesc)(k:PD):Prop:=(d=.string/\∃s,k=.str s)\/∃k0 n,d=.int k0/\k=.int k0 n
theorem aAe{kt:TypeId}{k:PD}(h:FD P kt k=true):∃d,P.underlying kt=some d/\IC d k:=by
 unfold FD at h;split at h
 .rename_i s hu;exact⟨_,hu,.inl ⟨rfl,_,rfl⟩⟩
 .rename_i k0 k1 n hu;simp only[yCd]at h;subst h;exact⟨_,hu,.inr ⟨_,_,rfl,rfl⟩⟩
 .cases h
theorem aAf{d:TypeDesc}{k q:PD}(hd:IC d k){vk vq:Value}(hk:VR c vk k)(hq:VR c vq q){b:Bool}(h:C1 k q=some b):Instr.sameNow d vk vq=some b/\(b=true->vk=vq):=by
 rcases hd with⟨rfl,s,rfl⟩ | ⟨k0,n,rfl,rfl⟩
 .rw[hk.rM];cases q<;>simp only[C1,reduceCtorEq]at h
  rw[hq.rM];simp only[yAb]at h;subst h;refine⟨by simp only[Instr.sameNow,bytes_beq],λh=>?_⟩;rw[eq_of_beq h]
 .rw[hk.oW];cases q<;>simp only[C1,reduceCtorEq]at h
  rw[hq.oW];split at h
  .rename_i hkk;subst hkk;simp only[yAb]at h;subst h;refine⟨by simp[Instr.sameNow],λh=>?_⟩;rw[eq_of_beq h]
  .cases h
theorem aS.tail{v:Value}{vs:Fa}{d:PD}{ds:Ey}(h:aS c (v::vs) (d::ds)):aS c vs ds:=⟨by have:=h.1;simpa using this,λi u x a b=>h.2 (i+1) u x Bh Bi⟩
theorem ID{d:TypeDesc}{k:PD}(hd:IC d k){vk:Value}(hk:VR c vk k):∀(ents:List MapEntry) (ms:List (PD×PD)) (i:Nat) (r:Option (Nat×PD)),aS c (ents.map MapEntry.key) (ms.map Prod.fst)->aS c (ents.map MapEntry.val) (ms.map Prod.snd)->vA k ms i=some r ->
  match r with
  |some (j,v)=>∃en,i<=j/\ents[j-i]?=some en/\VR c en.val v/\en.key=vk/\Instr.findNow d vk ents i=some (some (j,en.val))
  |none=>Instr.findNow d vk ents i=some none
 | [],[],i,r,_,_,h=>by
   simp only[vA,yAb]at h;subst h;rfl
 | [],_::_,_,_,h,_,_=>by have:=h.1;simp at this
 |_::_,[],_,_,h,_,_=>by have:=h.1;simp at this
 |en::ents,m::ms,i,r,h1,h2,h=>by
  have hk0:VR c en.key m.1:=h1.2 0 _ _ rfl rfl;have gR:VR c en.val m.2:=h2.2 0 _ _ rfl rfl;unfold vA at h;split at h
  .rename_i he;simp only[yAb]at h;subst h;obtain⟨q1,q2⟩:=aAf hd hk hk0 he;refine⟨en,yAk _,yg,gR,(q2 rfl).symm,?_⟩;simp[Instr.findNow,q1]
  .rename_i he;obtain⟨q1,_⟩:=aAf hd hk hk0 he;have ih:=ID hd hk ents ms (i+1) r h1.tail h2.tail h;cases r with
   |none=>
    simp only at ih ⊢;simp[Instr.findNow,q1,ih]
   |some jv=>
    obtain⟨j,v⟩:=jv;simp only at ih ⊢;obtain⟨en',g1,g2,g3,g4,g5⟩:=ih;refine⟨en',ye,?_,g3,g4,?_⟩
    .rw[show j-i=(j-(i+1))+1 by omega];simpa using g2
    .simp[Instr.findNow,q1,g5]
  .cases h
theorem IE{w:World}{kt:TypeId}{d:TypeDesc}{k:PD}(hu:P.underlying kt=some d)(hd:IC d k){vk:Value}(hk:VR c vk k)(e:Bool):(Instr.checkKey e 10000 kt vk).run P w=.ok () w:=by
 rcases hd with⟨rfl,s,rfl⟩ | ⟨k0,n,rfl,rfl⟩
 .rw[hk.rM];exact qe
 .rw[hk.oW];exact qe
theorem IF{w:World}{kt:TypeId}{d:TypeDesc}{vk:Value}{l:List MapEntry}{a:Option (Nat×Value)}(hd:P.underlying kt=some d)(h:Instr.findNow d vk l 0=some a):(Instr.findKey kt vk l).run P w=.ok a w:=by
 simp[Instr.findKey,yAM hd,Result.andThen,h]
theorem MJ{w:World}{r:Nat}{es:Array MapEntry}{clock:Nat}(hb:w.heap[r]?=some (.map es clock)):(getObj r).run P w=.ok (.map es clock) w:=by simp[getObj,Sem.run,hb]
theorem aAg{w:World}{r:Nat}{es:Array MapEntry}{clock:Nat}(o:Obj)(hb:w.heap[r]?=some (.map es clock)):(setObj r o).run P w=.ok () (w.putObj r o):=by simp[setObj,Sem.run,hb,World.putObj]
theorem aHc{d:TypeDesc}{k:PD}(hd:IC d k){vk:Value}(hk:VR c vk k)(w:World):(Instr.keyThatStays vk vk).run P w=.ok vk w:=by
 have:Instr.sameBits 10000 vk vk=true:=by
  rcases hd with⟨rfl,s,rfl⟩ | ⟨k0,n,rfl,rfl⟩
  .rw[hk.rM];simp only[Instr.sameBits,bytes_beq];simp
  .rw[hk.oW];simp[Instr.sameBits]
 simp[Instr.keyThatStays,this]
theorem aAh(hs:Sr c){id:Nat}{ms:List (PD×PD)}(hq:c.σ[id]?=some (.map ms)){vx:Value}(hx:VR c vx (.eO id)):∃b ents clock,vx=.map (some b)/\c.D id/\c.ρ id=.map (some b)/\c.w.heap[b]?=some (.map ents clock)/\aS c (ents.toList.map MapEntry.key) (ms.map Prod.fst)/\aS c (ents.toList.map MapEntry.val) (ms.map Prod.snd):=by
 obtain⟨b,rfl,hd,_,hr⟩:=hx.aHd;obtain⟨b',ents,clock,e1,e2,e3,e4⟩:=hs.map id ms hd hq;rw[hr]at e1;simp only[Value.map.injEq,yAb]at e1;subst e1;exact⟨b,ents,clock,rfl,hd,hr,e2,e3,e4⟩
theorem aGZ(hs:Sr c){t:TypeId}{x k p:PD}{ok:Bool}(h:FE P c.σ t x k ok=some p){vx vk:Value}(hx:VR c vx x)(hk:VR c vk k):∃v,(Instr.lookup t vx vk ok).run P c.w=.ok v c.w/\VR c v p:=by
 have two:∀ {v:Value} {q:PD} (b:Bool),VR c v q->VR c (if ok then .tuple #[v,.bool b]else v) (if ok then .aP [q,.bool b]else q):=fun {v q} b hv=>by
  cases ok
  .exact hv
  .exact .aP [v,.bool b] [q,.bool b] rfl (λi u d h1 h2=>by
    match i with
    |0=>simp at h1 h2;subst h1;subst h2;exact hv
    |1=>simp at h1 h2;subst h1;subst h2;exact .bool b
    |i+2=>simp at h1)
 unfold FE at h;split at h
 rotate_left
 .cases h
 rename_i kt e hu;split at h
 rotate_left
 .cases h
 rename_i hki;obtain⟨d,hkt,hd⟩:=aAe hki;split at h
 .rename_i id;split at h
  rotate_left
  .cases h
  rename_i ms hq;obtain⟨b,ents,clock,rfl,_,_,e2,e3,e4⟩:=aAh hs hq hx;split at h
  .rename_i j v hf;simp only[yAb]at h;subst h;obtain⟨en,_,_,g3,_,g5⟩:=ID hd hk _ _ 0 _ e3 e4 hf;refine⟨_,?_,two true g3⟩;simp[Instr.lookup,yAM hu,MJ e2,IE hkt hd hk,IF hkt g5]
  .rename_i hf;split at h
   .rename_i z hz;simp only[yAb]at h;subst h;obtain⟨zv,i,hi,hzv,hzr⟩:=CX (c:=c) hz;have g5:=ID hd hk _ _ 0 _ e3 e4 hf;have IG:(zeroValue e).run P c.w=.ok zv c.w:=Ct;refine⟨_,?_,two false hzr⟩;simp[Instr.lookup,yAM hu,MJ e2,IE hkt hd hk,IF hkt g5,IG]
   .cases h
  .cases h
 .split at h
  .rename_i z hz;simp only[yAb]at h;subst h;have hvx:vx=.map none:=by cases hx;rfl
   subst hvx;obtain⟨zv,i,hi,hzv,hzr⟩:=CX (c:=c) hz;have IG:(zeroValue e).run P c.w=.ok zv c.w:=Ct;have g5:Instr.findNow d vk [] 0=some none:=rfl;refine⟨_,?_,two false hzr⟩;simp[Instr.lookup,yAM hu,IE hkt hd hk,IF hkt g5,IG]
  .cases h
 .cases h
theorem aS.set{vs:Fa}{ds:Ey}(h:aS c vs ds){v:Value}{p:PD}(hv:VR c v p)(j:Nat):aS c (vs.set j v) (ds.set j p):=by
 refine⟨by simp[h.1],λi u d h1 h2=>?_⟩;rw[yCV]at h1 h2;split at h1
 .rename_i e;rw[yAJ e]at h2;split at h1
  .split at h2
   .simp only[yAb]at h1 h2;subst h1;subst h2;exact hv
   .cases h2
  .cases h1
 .rename_i e;rw[yAI e]at h2;exact h.2 i u d h1 h2
theorem aG0(hs:Sr c){t:TypeId}{x k v:PD}{σ':Ex}(h:FF P fl c.σ t x k v=some σ'){vx vk vv:Value}(hx:VR c vx x)(hk:VR c vk k)(hv:VR c vv v) :
  ∃w',(Instr.mapUpdate t vx vk vv).run P c.w=.ok () w'/\Leaves fl c (.aP []) σ' undef w':=by
 unfold FF at h;split at h
 rotate_left
 .cases h
 rename_i kt e hu;split at h
 rotate_left
 .cases h
 rename_i hki;obtain⟨d,hkt,hd⟩:=aAe hki;split at h
 rotate_left
 .cases h
 rename_i id;split at h
 rotate_left
 .cases h
 rename_i hfl;split at h
 rotate_left
 .cases h
 rename_i ms hq;obtain⟨b,ents,clock,rfl,hD,hr,e2,e3,e4⟩:=aAh hs hq hx;have hb:aY (c.ρ id)=some b:=Ap;split at h
 .rename_i j v0 hf;simp only[yAb]at h;subst h;obtain⟨en,_,g2,g3,g4,g5⟩:=ID hd hk _ _ 0 _ e3 e4 hf;simp only[yDn]at g2;subst g4;have g2':ents[j]?=some en:=Ax;have hst:(Instr.mapUpdate t (.map (some b)) en.key vv).run P c.w=.ok () (c.w.putObj b (.map (ents.modify j λe=>{ e with key:=en.key,val:=vv }) clock)):=by
   simp[Instr.mapUpdate,yAM hu,MJ e2,IE hkt hd hk,IF hkt g5,g2',aHc hd hk,aAg _ e2]
  have hkeys:((ents.modify j λe=>{ e with key:=en.key,val:=vv }).toList.map MapEntry.key)=(ents.toList.map MapEntry.key).set j en.key:=by
   exact dm
  have hvals:((ents.modify j λe=>{ e with key:=en.key,val:=vv }).toList.map MapEntry.val)=(ents.toList.map MapEntry.val).set j vv:=by
   exact dm
  refine⟨_,hst,_,rfl,rfl,Sr.tZ (o':=.map (ms.set j (k,v))) hs hD hq trivial trivial hb e2 yg ⟨⟨_,_,rfl,?_,?_⟩,hr⟩,Nx.tZ hs hD hq trivial trivial hb hfl e2 yg,IH _,λi hi=>.inl hi⟩
  .rw[hkeys,yCL];exact e3.set hk j
  .rw[hvals,yCL];exact e4.set hv j
 .rename_i hf;simp only[yAb]at h;subst h;have g5:=ID hd hk _ _ 0 _ e3 e4 hf;have hst:(Instr.mapUpdate t (.map (some b)) vk vv).run P c.w=.ok () (c.w.putObj b (.map (ents.push { key:=vk,val:=vv,born:=clock }) (clock+1))):=by
   simp[Instr.mapUpdate,yAM hu,MJ e2,IE hkt hd hk,IF hkt g5,aAg _ e2]
  have one:∀ {v:Value} {p:PD},VR c v p->aS c [v] [p]:=λh=>⟨rfl,λi u d h1 h2=>by
   match i with
   |0=>simp at h1 h2;subst h1;subst h2;exact h
   |i+1=>simp at h1⟩
  refine⟨_,hst,_,rfl,rfl,Sr.tZ (o':=.map (ms++[(k,v)])) hs hD hq trivial trivial hb e2 yg ⟨⟨_,_,rfl,?_,?_⟩,hr⟩,Nx.tZ hs hD hq trivial trivial hb hfl e2 yg,IH _,λi hi=>.inl hi⟩
  .simp only[Array.toList_push,yAH];exact e3.append (one hk)
  .simp only[Array.toList_push,yAH];exact e4.append (one hv)
 .cases h
theorem aGY(hs:Sr c)(t:TypeId):∃v w',(Instr.makeMap t none).run P c.w=.ok v w'/\Leaves fl c (.eO c.σ.length) (c.σ++[.map []]) v w':=by
 have hbk:∀b,aY (.map (some c.w.heap.size))=some b->c.w.heap.size<=b/\b<(c.w.alloc (.map #[] 0)).heap.size:=λb hb=>by
  simp[aY]at hb;subst hb;simp
 refine⟨.map (some c.w.heap.size),c.w.alloc (.map #[] 0),rfl,c.push (c.w.alloc (.map #[] 0)) (.map (some c.w.heap.size)) (.map []),rfl,rfl,?_,Nx.push hs (wV _ _) (λb hb=>(hbk b hb).1),?_,?_⟩
 .exact Sr.push hs (wV _ _) hbk ⟨_,#[],0,rfl,yBW _ _,⟨rfl,yg⟩,⟨rfl,yg⟩⟩
 .exact .eO _ _ (.inr rfl) (by rw[gC.1];trivial) gC.2.1
 .exact bx
end
end
section
open Go.RowKit
section
variable{P:Program}{c:Cx}{fl:Nat}
def aAc(P:Program)(o:Oper)(a:Act)(w:World)(v:Value)(w':World):Prop:=
 (execOp a.eval o).run P w=.ok (.value v) w'\/((execOp a.eval o).run P w=.ok .skip w'/\v=undef)
theorem aGP(hs:Sr c)(hX:Xw fl c){a:Act}{fr:Ey}(hf:FR c a fr){o:Oper}{p:PD}{σ':Ex}(h:cJ P fl fr c.σ o.op=some (p,σ')) :
  ∃v w',aAc P o a c.w v w'/\Leaves fl c p σ' v w':=by
 obtain⟨dst,op,ty,pos,after,guard⟩:=o;simp only at h;unfold cJ at h;split at h
 .rename_i t x;split at h
  .rename_i pa h1;split at h
   .rename_i q hq;simp only[yAb,yAc]at h;obtain⟨rfl,rfl⟩:=h;obtain⟨v,r,hv⟩:=ZN hs hq (dO hf h1);exact gw
   .exact af
  .exact af
 .rename_i t x y;split at h
  .rename_i pa pb h1 h2;split at h
   .rename_i s' hs';simp only[yAb,yAc]at h;obtain⟨rfl,rfl⟩:=h;obtain⟨w',r,hl⟩:=aGQ hs hs' (dO hf h1) (dO hf h2);exact⟨undef,w',.inr ⟨Dx,rfl⟩,hl⟩
   .exact af
  .exact af
 .rename_i t;split at h
  .rename_i q hq;split at h
   .rename_i hpl;simp only[yAb,yAc]at h;obtain⟨rfl,rfl⟩:=h;obtain⟨zv,i,hi,hzv,hzr⟩:=CX (c:=c) hq;obtain⟨r,hl⟩:=Q2 (P:=P) (fl:=fl) hs (L7 hq hi hzv t) (aS.wW hzr.cells hpl) t (λt' ds e=>L8 hzr e);refine⟨_,_,.inl ?_,hl⟩;simp[execOp,Instr.alloc,zeroValue,typeInfo,hi,hzv,r]
   .exact af
  .exact af
 .rename_i t x;split at h
  .rename_i q hq;split at h
   .rename_i hpl;simp only[yAb,yAc]at h;obtain⟨rfl,rfl⟩:=h;obtain⟨r,hl⟩:=Q2 (P:=P) (fl:=fl) hs (dO hf hq).cells (aS.wW (dO hf hq).cells hpl) t (λt' ds e=>(by have:=dO hf hq;rw[e]at this;exact this.aGR.elim));refine⟨_,_,.inl ?_,hl⟩;simp[execOp,Instr.box,r]
   .exact af
  .exact af
 .rename_i t len parts;split at h
  .rename_i ps h1;split at h
   .rename_i q hq;simp only[yAb,yAc]at h;obtain⟨rfl,rfl⟩:=h;obtain⟨a1,a2⟩:=MF hf h1;obtain⟨v,w',r,hl⟩:=aGS (fl:=fl) hs (vparts:=parts.toList.map λq=>(q.1,a.eval q.2)) hq (by simpa using a1) (λi jv jp h3 h4=>by
     rw[yAo]at h4;cases hx:ps[i]? with
     |none=>rw[hx]at h4;simp at h4
     |some x=>
      rw[hx]at h4;simp only[yAC,yAb]at h4;subst h4;exact⟨(a2 i jv x h3 hx).1,(a2 i jv x h3 hx).2.strip⟩)
    refine⟨v,w',.inl ?_,hl⟩;have e:(Array.map (λx=>match x with|(i,x)=>(i,a.eval x)) parts)=(parts.toList.map λq=>(q.1,a.eval q.2)).toArray:=At;simp only[execOp,yBa];rw[e,r];simp
   .exact af
  .exact af
 .rename_i s d x;split at h
  .split at h
   .rename_i q hq;split at h
    .rename_i r hr;simp only[yAb,yAc]at h;obtain⟨rfl,rfl⟩:=h;obtain⟨v,w',r,hl⟩:=aGT (fl:=fl) hs hr (dO hf hq);exact⟨v,w',.inl Dx,hl⟩
    .split at h
     .rename_i r hr;simp only[yAb,yAc]at h;obtain⟨rfl,rfl⟩:=h;obtain⟨v,r,hv⟩:=aGU hs hr (dO hf hq);exact gw
     .exact af
   .exact af
  .exact af
 .rename_i t l k;split at h
  .rename_i e l' k' hu h1 h2;have hl:∃kl,a.eval l=.int kl (l':Int):=by
    cases hx:aX fr l with
    |none=>rw[hx]at h1;cases h1
    |some q=>
     rw[hx]at h1;obtain⟨kl,zl,e1,e2,e3⟩:=CY h1 (dO hf hx);exact⟨kl,by rw[e1,<-e3];congr 1;omega⟩
   have hk:∃kk,a.eval k=.int kk (k':Int):=by
    cases hx:aX fr k with
    |none=>rw[hx]at h2;cases h2
    |some q=>
     rw[hx]at h2;obtain⟨kl,zl,e1,e2,e3⟩:=CY h2 (dO hf hx);exact⟨kl,by rw[e1,<-e3];congr 1;omega⟩
   obtain⟨kl,hl⟩:=hl;obtain⟨kk,hk⟩:=hk;obtain⟨v,w',r,hlv⟩:=aGV (fl:=fl) hs hu h kl kk;exact⟨v,w',.inl (by simp[execOp,hl,hk,r]),hlv⟩
  .exact af
 .rename_i args ts;split at h
  .rename_i s t h1 h2;split at h
   .rename_i s' hs';simp only[yAb,yAc]at h;obtain⟨rfl,rfl⟩:=h;have hv:=rL hf h1;have hvl:=hv.1;obtain⟨args⟩:=args;obtain⟨ts⟩:=ts;simp only at h1 hv hvl h2
    match args,hv,hvl with
    | [x1],hv,_=>
      subst h2;obtain⟨v,w',r,hl⟩:=aGW (fl:=fl) hs hs' (hv.2 0 _ _ rfl rfl) ty;exact cw
   .exact af
  .exact af
 .rename_i args ts;split at h
  .rename_i d x t t' h1 h2;have hv:=rL hf h1;have hvl:=hv.1;obtain⟨args⟩:=args;obtain⟨ts⟩:=ts;simp only at h1 hv hvl h2
   match args,hv,hvl with
   | [x1,x2],hv,_=>
     subst h2;obtain⟨v,w',r,hl⟩:=aGX (fl:=fl) hs h (hv.2 0 _ _ rfl rfl) (hv.2 1 _ _ rfl rfl) ty;exact cw
  .exact af
 .rename_i t;split at h
  .simp only[yAb,yAc]at h;obtain⟨rfl,rfl⟩:=h;obtain⟨v,w',r,hl⟩:=aGY (P:=P) (fl:=fl) hs t;exact⟨v,w',.inl Dx,hl⟩
  .exact af
 .rename_i t x k ok;split at h
  .rename_i m k' h1 h2;split at h
   .rename_i q hq;simp only[yAb,yAc]at h;obtain⟨rfl,rfl⟩:=h;obtain⟨v,r,hv⟩:=aGZ hs hq (dO hf h1) (dO hf h2);exact gw
   .exact af
  .exact af
 .rename_i t x k v;split at h
  .rename_i m k' v' h1 h2 h3;split at h
   .rename_i s' hs';simp only[yAb,yAc]at h;obtain⟨rfl,rfl⟩:=h;obtain⟨w',r,hl⟩:=aG0 (fl:=fl) hs hs' (dO hf h1) (dO hf h2) (dO hf h3);exact⟨undef,w',.inr ⟨Dx,rfl⟩,hl⟩
   .exact af
  .exact af
 .rename_i args ts;split at h
  .rename_i s x t t' h1 h2;split at h
   .rename_i htt;subst htt;have hv:=rL hf h1;have hvl:=hv.1;obtain⟨args⟩:=args;obtain⟨ts⟩:=ts;simp only at h1 hv hvl h2
    match args,hv,hvl with
    | [x1,x2],hv,_=>
      subst h2;split at h
      .rename_i q hq;simp only[yAb]at h;subst h;obtain⟨v,w',r,hl⟩:=aG1 (fl:=fl) hs hq (hv.2 0 _ _ rfl rfl) (hv.2 1 _ _ rfl rfl) ty;exact cw
      .obtain⟨v,w',r,hl⟩:=aG2 hs hX h (hv.2 0 _ _ rfl rfl) (hv.2 1 _ _ rfl rfl).strip ty;exact cw
   .split at h
    .rename_i l hst;split at h
     .rename_i hb;have hv:=rL hf h1;have hvl:=hv.1;obtain⟨args⟩:=args;obtain⟨ts⟩:=ts;simp only at h1 hv hvl h2
      match args,hv,hvl with
      | [x1,x2],hv,_=>
        subst h2;have hx2:=(hv.2 1 _ _ rfl rfl).rM;obtain⟨v,w',r,hl⟩:=aG3 hs hX hst hb h (hv.2 0 _ _ rfl rfl) ty;exact kj
     .exact af
    .rename_i m hst;have hv:=rL hf h1;have hvl:=hv.1;obtain⟨args⟩:=args;obtain⟨ts⟩:=ts;simp only at h1 hv hvl h2
     match args,hv,hvl with
     | [x1,x2],hv,_=>
       subst h2;have hx2:=(hv.2 1 _ _ rfl rfl).oW;obtain⟨v,w',r,hl⟩:=aG4 (fl:=fl) hs hst h (hv.2 0 _ _ rfl rfl) ty;exact kj
    .exact af
  .exact af
 .exact af
theorem aGK(hs:Sr c)(hX:Xw fl c){a:Act}{fr:Ey}(hf:FR c a fr){o:Oper}{p:PD}{σ':Ex}(h:pop P fl fr c.σ o.op=some (p,σ')) :
  ∃v w',aAc P o a c.w v w'/\Leaves fl c p σ' v w':=by
 unfold pop at h;split at h
 .rename_i q hq;simp only[yAb,yAc]at h;obtain⟨rfl,rfl⟩:=h;obtain⟨v,r,hv⟩:=aG5 hf hq c.w;exact⟨v,c.w,.inl r,c,rfl,rfl,hs,.refl _ _,hv,λ_ h=>.inl h⟩
 .exact aGP hs hX hf h
theorem aGI{a:Act}{fr:Ey}(hf:FR c a fr){o:Oper}{f:FuncId}{ps:Ey}(h:fJ fr o.op=some (.inl f,ps)){fn:Func}(hfn:P.funcs[f]?=some fn)(hb:fn.body.isSome=true)(hn:(fn.name== "runtime.NumGoroutine")=false) :
  ∃vs:List Value,(execOp a.eval o).run P c.w=.ok (.enter f vs.toArray) c.w/\aS c vs ps:=by
 obtain⟨dst,op,ty,pos,after,guard⟩:=o;simp only at h;unfold fJ at h;split at h
 .rename_i g args ts;split at h
  .rename_i f' cap qs h1 h2;simp only[yAb,yAc,yDM]at h;obtain⟨rfl,rfl⟩:=h;obtain⟨cs,e,hcs⟩:=(dO hf h1).HU;have hv:=rL hf h2;refine⟨args.toList.map a.eval++cs,?_,hv.append hcs⟩;have hb':fn.body.isNone=false:=Df;have e2:(#[]++args.map a.eval++cs.toArray)=(args.toList.map a.eval++cs).toArray:=At;exact mh
  .rename_i f' first qs h1 h2;simp only[yAb,yAc,yDM]at h;obtain⟨rfl,rfl⟩:=h;obtain⟨cs,e,hcs⟩:=(dO hf h1).Z9;have hv:=rL hf h2;refine⟨cs++args.toList.map a.eval,?_,hcs.append hv⟩;have hb':fn.body.isNone=false:=Df;have e2:(cs.toArray++args.map a.eval++#[])=(cs++args.toList.map a.eval).toArray:=At;exact mh
  .exact af
  .exact af
 .exact af
theorem VR.aG6{v:Value}{id:Nat}(h:VR c v (.yield id)):∃l,v=.func (.yield l) #[] #[]/\c.D id/\kL c.σ[id]?/\c.ρ id=.pointer (some ⟨l,0,none⟩):=by
 cases h with|yield _ l h1 h2 h3=>exact⟨l,rfl,h1,h2,h3⟩
theorem aGJ{a:Act}{fr:Ey}(hf:FR c a fr){o:Oper}{id:Nat}{ps:Ey}(h:fJ fr o.op=some (.inr id,ps)) :
  ∃(l:Nat) (vs:List Value),(∀w:World,(execOp a.eval o).run P w=(Instr.yield l vs.toArray).run P w)/\aS c vs ps/\c.D id/\c.ρ id=.pointer (some ⟨l,0,none⟩):=by
 obtain⟨dst,op,ty,pos,after,guard⟩:=o;simp only at h;unfold fJ at h;split at h
 .rename_i g args ts;split at h
  .exact af
  .exact af
  .rename_i id' qs h1 h2;simp only[yAb,yAc,Sum.inr.injEq]at h;obtain⟨rfl,rfl⟩:=h;obtain⟨l,e,hd,hn,hr⟩:=(dO hf h1).aG6;have hv:=rL hf h2;refine⟨l,args.toList.map a.eval,λw=>?_,hv,hd,hr⟩;have e2:(#[]++args.map a.eval)=(args.toList.map a.eval).toArray:=At;simp only[execOp,resolve,e,Deferred.ofValue,yBa,yBk,yBj,invoke,e2]
  .exact af
 .exact af
end
end
section
inductive PX where
 |normal
 |exit (id:Nat)
 |ret
def PX.HT:PX->Exit
 |.normal=>.normal
 |.exit id=>.exit id
 |.ret=>.ret
structure PO where
 x:PX
 fr:Ey
 ms:List Nat
 σ:Ex
abbrev bY:=Nat->FuncId ⊕ Nat->List PD->List aB->Option (PD×List aB)
abbrev sH:=Option Nat->Code->Nat->List PD->List Nat->List aB->Option PO
abbrev aE:=FuncId->Option (Nat->List PD->List aB->Option (PD×List aB))
def bX(P:Program)(call:bY)(fl:Nat)(fr:List PD)(σ:List aB)(op:Op):Option (PD×List aB):=
 match fJ fr op with
 |some (tg,args)=>call fl tg args σ
 |none=>pop P fl fr σ op
def dE(P:Program)(call:bY)(fl:Nat)(ops:Array Oper):List Oper->List PD->List aB->Option (List PD×List aB)
 | [],fr,σ=>some (fr,σ)
 |o::rest,fr,σ=>
  if Region.wanted o (bM ops fr)then
   match bX P call fl fr σ o.op with
   |some (p,σ')=>dE P call fl ops rest (aW fr o.dst p) σ'
   |none=>none
  else dE P call fl ops rest (aW fr o.dst (.aP [])) σ
def ME(P:Program)(call:bY)(fl:Nat)(ops:Array Oper):List Oper->List PD->List aB->Option (List PD×List aB)
 | ⟨some d,.buildSlice t len parts,_,_,_,none⟩::⟨d2,.convert s t' (.tmp d'),_,_,_,none⟩::rest,fr,σ=>
   match P.underlying t with
   |some (.slice e)=>match P.underlying e with
    |some (.int .u8)=>if s=t/\t'=t/\d'=d/\d<fr.length then
      match pI fr parts.toList with
      |some ps=>match sE P t len (ps.map λq=>(q.1,q.2.strip))with
       |some (.slice n xs .full)=>dE P call fl ops rest (aW (fr.set d (.slice n xs .full)) d2 (.slice n xs .full)) σ
       |_=>none
      |none=>none
     else none
    |_=>none
   |_=>none
 |_,_,_=>none
def AN(P:Program)(call:bY)(fl:Nat)(ops:Array Oper)(fr:List PD)(σ:List aB):Option (List PD×List aB):=
 match dE P call fl ops ops.toList fr σ with
 |some x=>some x
 |none=>ME P call fl ops ops.toList fr σ
def dW:Op->Bool
 |.convert s d _=>!CN s d
 |.move _|.assign _|.pick .. | .binOp .. | .unOp .. | .makeFunc .. | .slice .. | .fieldAddr .. | .field .. | .indexAddr .. | .index .. | .extract .. | .nilCheck _|.build ..=>true
 |.call { callee:=.builtin .len,.. } | .call { callee:=.builtin .min,.. } | .call { callee:=.builtin .max,.. }=>true
 |_=>false
def dM:Op->Bool
 |.load ..=>true
 |.convert s d _=>CN s d
 |_=>false
def cE:Op->Bool
 |.alloc _=>true
 |_=>false
def Q7(t:TypeId)(a b:Operand):Bool:=match a,b with
 |.const (.int _ l),.const (.int _ k)=>decide (l=k)&&decide (0<l)&&!Q6 t
 |_,_=>false
def kY:Op->Bool
 |.buildSlice ..=>true
 |.makeSlice t a b=>Q7 t a b
 |_=>false
def eW:Op->Bool
 |.store ..=>true
 |_=>false
def cU:Op->Bool
 |.box ..=>true
 |.call { callee:=.value _,.. }=>true
 |.call { callee:=.builtin .append,.. }=>true
 |.call { callee:=.builtin .copy,.. }=>true
 |_=>false
def dN(o:Op):Bool:=eW o||cU o
def wR(acc:List Nat)(o:Oper):Nat:=
 o.after.toList.foldl (λs e=>if Region.binds .any e then s ||| 2^e.on ||| acc.getD e.on 0 else s) 0
def bW:List Oper->List Nat->List Nat
 | [],acc=>acc
 |o::r,acc=>bW r (acc++[wR acc o])
def dZ(f:Op->Bool)(ops:List Oper)(i:Nat):Bool:=((ops[i]?).map λo=>f o.op).getD false
def loose(ms:List Nat)(i j:Nat):Bool:=!(ms.getD i 0).testBit j&&!(ms.getD j 0).testBit i
def jC(ops:List Oper)(ms:List Nat)(k:Nat):Bool:=
 (List.range ops.length).all λi=>!dZ dM ops i||!loose ms i k
def Z6(ops:Array Oper)(i:Nat)(o:Oper):Bool:=
 (List.range ops.size).all λj=>j==i ||
  match ops[j]? with
  |none=>true
  |some oj=>match oj.dst with
   |none=>true
   |some d=>(o.dst != some d)&&(!(o.looksAt ops).contains d ||
     (if j<i then o.after.any (λe=>Region.binds .any e&&e.on==j)else oj.after.any (λe=>Region.binds .any e&&e.on==i)))
def tT(ops:Array Oper)(ms:List Nat):Bool:=
 Region.noSelect ops &&
 (List.range ops.size).all λi=>match ops[i]? with
  |none=>true
  |some o=>(dW o.op||dM o.op||cE o.op||kY o.op||dN o.op)&&Z6 ops i o&&o.after.all (λe=>!Region.binds .any e||e.on<i) &&
    (!dN o.op||(List.range i).all λj=>!dZ dN ops.toList j||(ms.getD i 0).testBit j)
def lA(P:Program):List Oper->Option (List aB)
 | []=>some []
 |o::r=>match o.op with
  |.alloc t=>match eE P t,lA P r with
    |some p,some l=>if p.cells.all PD.plain then some (.box (boxed t p)::l)else none
    |_,_=>none
  |_=>lA P r
def gJ:PD->Option Nat
 |.ptr id _=>some id
 |.dH id _ _=>some id
 |.cV id _ _ _=>some id
 |_=>none
def j6(fr:List PD):Op->Option Nat
 |.load _ x=>match aX fr x with|some a=>gJ a|none=>none
 |.store _ x _=>match aX fr x with|some a=>gJ a|none=>none
 |.convert _ _ x=>match aX fr x with|some a=>gJ a|none=>none
 |_=>none
def fL(P:Program)(call:bY)(fl:Nat)(free:Bool)(k:Nat)(fr:List PD)(σ:List aB)(op:Op):Option (PD×List aB):=
 if dW op then(match dL P fr op with|some p=>some (p,σ)|none=>none)
 else if cE op then some (.ptr k 0,σ)
 else if cU op&&!free then
  match bX P call (max fl σ.length) fr σ op with
  |some (p,σ')=>some (p,σ++σ'.drop σ.length)
  |none=>none
 else if cU op then bX P call fl fr σ op
 else cJ P fl fr σ op
structure TE where
 fr:Ey
 σ:Ex
 p:PD
 iJ:Option Nat
def eL(P:Program)(call:bY)(fl:Nat)(ops:Array Oper)(ms:List Nat):Nat->Nat->List Oper->List PD->List aB->Option (List TE×Ey×List aB)
 |_,_,[],fr,σ=>some ([],fr,σ)
 |i,k,o::rest,fr,σ=>
  let k':=if cE o.op then k+1 else k
  if Region.wanted o (bM ops fr)then
   match fL P call fl (jC ops.toList ms i) k fr σ o.op with
   |some (p,σ')=>match eL P call fl ops ms (i+1) k' rest (aW fr o.dst p) σ' with
    |some (tr,fr',yQ)=>some (⟨fr,σ,p,j6 fr o.op⟩::tr,fr',yQ)
    |none=>none
   |none=>none
  else match eL P call fl ops ms (i+1) k' rest (aW fr o.dst (.aP [])) σ with
   |some (tr,fr',yQ)=>some (⟨fr,σ,.aP [],none⟩::tr,fr',yQ)
   |none=>none
def oP(ops:List Oper)(ms:List Nat)(tr:List TE):Bool:=
 (List.range ops.length).all λk=>!dZ eW ops k||(List.range ops.length).all λi=>!dZ dM ops i||!loose ms i k ||
  match ((tr[i]?).bind TE.iJ),((tr[k]?).bind TE.iJ)with
  |some a,some b=>a != b
  |_,_=>true
def mU(P:Program)(call:bY)(fl:Nat)(ops:Array Oper)(fr:List PD)(σ:List aB):Option (List PD×List aB):=
 let ms:=bW ops.toList []
 if tT ops ms then
  match lA P ops.toList with
  |some hs=>match eL P call fl ops ms 0 σ.length ops.toList fr (σ++hs)with
   |some (tr,fr',σ')=>if oP ops.toList ms tr then some (fr',σ')else none
   |none=>none
  |none=>none
 else none
def oH(P:Program)(call:bY)(fl:Nat)(ops:Array Oper):Nat->Nat->List Oper->List PD->List aB->Option (List TE×Ey×List aB)
 |_,_,[],fr,σ=>some ([],fr,σ)
 |i,k,o::rest,fr,σ=>
  let k':=if cE o.op then k+1 else k
  if Region.wanted o (bM ops fr)then
   match fL P call fl true k fr σ o.op with
   |some (p,σ')=>match oH P call fl ops (i+1) k' rest (aW fr o.dst p) σ' with
    |some (tr,fr',yQ)=>some (⟨fr,σ,p,j6 fr o.op⟩::tr,fr',yQ)
    |none=>none
   |none=>none
  else match oH P call fl ops (i+1) k' rest (aW fr o.dst (.aP [])) σ with
   |some (tr,fr',yQ)=>some (⟨fr,σ,.aP [],none⟩::tr,fr',yQ)
   |none=>none
def TE.at(tr:List TE)(uC:List aB)(j:Nat):List aB:=match tr[j]? with
 |some t=>t.σ
 |none=>uC
def aGO(ops:List Oper)(ms:List Nat)(tr:List TE)(uC:List aB):Prop:=
 ∀(k i id:Nat) (ok oi:Oper),ops[k]?=some ok->ops[i]?=some oi->cU ok.op=true->dM oi.op=true->loose ms i k=true->(tr[i]?).bind TE.iJ=some id ->
  (TE.at tr uC k).length<=(TE.at tr uC (k+1)).length/\(id<(TE.at tr uC k).length->(TE.at tr uC (k+1))[id]?=(TE.at tr uC k)[id]?)
open Classical in
def lB(P:Program)(call:bY)(fl:Nat)(ops:Array Oper)(fr:List PD)(σ:List aB):Option (List PD×List aB):=
 match mU P call fl ops fr σ with
 |some x=>some x
 |none=>if tT ops (bW ops.toList [])then
  match lA P ops.toList with
  |some hs=>match oH P call fl ops 0 σ.length ops.toList fr (σ++hs)with
   |some (tr,fr',σ')=>if oP ops.toList (bW ops.toList []) tr=true/\aGO ops.toList (bW ops.toList []) tr σ' then some (fr',σ')else none
   |none=>none
  |none=>none
 else none
def AK(P:Program)(fr:List PD)(σ:List aB):ResultVar->Option PD
 |.tmp t=>some (fr.getD t (.aP []))
 |.cell a t=>match fr.getD a (.aP [])with
   |.ptr id off=>oM P σ t (.ptr id off)
   |_=>none
def wS(P:Program)(fr:List PD)(σ:List aB):List ResultVar->Option (List PD)
 | []=>some []
 |r::rs=>match AK P fr σ r,wS P fr σ rs with
  |some p,some ps=>some (p::ps)
  |_,_=>none
def CO:List PD->PD
 | [p]=>p
 |ps=>.aP ps
def tX(fl:Nat):List Nat->List aB->Option (List aB)
 | [],σ=>some σ
 |m::ms,σ=>if fl<=m then(match σ[m]? with
  |some .mark=>tX fl ms (σ.set m .none)
  |_=>none)else none
def tQ(fr:List PD):List Tmp->List PD->Ey
 |t::ts,p::ps=>tQ (fr.set t p) ts ps
 |_,_=>fr
def EL(code:sH)(fl:Nat)(id:Nat)(args:List PD)(σ:List aB):Option (PD×List aB):=
 if fl<=id then
  match σ[id]? with
  |some (.loop .ready fr ps assign body)=>
   if args.length=ps.length then
    match code (some id) assign fl (tQ fr ps args) [] σ with
    |some ⟨.normal,aQ,ms1,σ1⟩=>
     match σ1[id]? with
     |some (.loop .ready fE EW EX EY)=>
      match code (some id) body fl aQ ms1 (σ1.set id (.loop .busy fE EW EX EY))with
      |some ⟨x,_,_,σ2⟩=>
       match σ2[id]? with
       |some (.loop .busy wO uZ wP wQ)=>
        match x with
        |.normal=>some (.bool true,σ2.set id (.loop .ready wO uZ wP wQ))
        |.ret=>some (.bool false,σ2.set id (.loop (.done .ret) wO uZ wP wQ))
        |.exit k=>some (.bool false,σ2.set id (.loop (.done (.exit k)) wO uZ wP wQ))
       |_=>none
      |none=>none
     |_=>none
    |_=>none
   else none
  |_=>none
 else none
def eF(P:Program)(fl:Nat)(fn:Func)(r:PO):Option (PD×List aB):=
 match r.x with
 |.exit _=>none
 |_=>match tX fl r.ms r.σ with
  |some σ=>match wS P r.fr σ fn.results.toList with
   |some ps=>some (CO ps,σ)
   |none=>none
  |none=>none
def CR(P:Program)(code:sH)(fl:Nat)(f:FuncId)(args:List PD)(σ:List aB):Option (PD×List aB):=
 match P.funcs[f]? with
 |some fn=>match fn.body with
  |some c=>match code none c fl (args++List.replicate (fn.ntmps-args.length) (.aP [])) [] σ with
   |some r=>eF P fl fn r
   |none=>none
  |none=>none
 |none=>none
def qH(P:Program)(E:aE)(code:sH):bY
 |fl,.inl f,args,σ=>match E f with
  |some g=>g fl args σ
  |none=>CR P code fl f args σ
 |fl,.inr id,args,σ=>EL code fl id args σ
def wL(id:Nat)(fr:List PD)(ms:List Nat)(σ:List aB):Option PO:=
 match σ[id]? with
 |some (.loop .ready _ _ _ _)=>some ⟨.normal,fr,ms,σ.set id .none⟩
 |some (.loop (.done .ret) _ _ _ _)=>some ⟨.ret,fr,ms,σ.set id .none⟩
 |some (.loop (.done (.exit k)) _ _ _ _)=>some ⟨.exit k,fr,ms,σ.set id .none⟩
 |_=>none
def EM(call:bY)(rd:Option Nat)(gf:FuncId)(cap:List PD)(ps:List Tmp)(assign body:Code)(fl:Nat)(fr:List PD)(ms:List Nat)(σ:List aB):Option PO:=
 if fl<=σ.length then
  match rd with
  |none=>match call fl (.inl gf) (.yield (σ.length+1)::cap) (σ++[.mark]++[.loop .ready fr ps assign body])with
   |some (_,σ2)=>wL (σ.length+1) fr (σ.length::ms) σ2
   |none=>none
  |some l=>match σ[l]? with
   |some (.loop _ _ _ _ _)=>match call fl (.inl gf) (.yield σ.length::cap) (σ++[.loop .ready fr ps assign body])with
    |some (_,σ2)=>wL σ.length fr ms σ2
    |none=>none
   |_=>none
 else none
def gS(P:Program)(E:aE):Nat->sH
 |0=>λ_ _ _ _ _ _=>none
 |n+1=>λrd c fl fr ms σ=>
  match c with
  |.skip=>some ⟨.normal,fr,ms,σ⟩
  |.region _ ops false=>match AN P (qH P E (gS P E n)) fl ops fr σ with
    |some (fr',σ')=>some ⟨.normal,fr',ms,σ'⟩
    |none=>none
  |.region _ ops true=>match lB P (qH P E (gS P E n)) fl ops fr σ with
    |some (fr',σ')=>some ⟨.normal,fr',ms,σ'⟩
    |none=>none
  |.seq x y=>match gS P E n rd x fl fr ms σ with
    |some ⟨.normal,fr',ms',σ'⟩=>gS P E n rd y fl fr' ms' σ'
    |r=>r
  |.cond g x y=>match aX fr g with
    |some (.bool true)=>gS P E n rd x fl fr ms σ
    |some (.bool false)=>gS P E n rd y fl fr ms σ
    |_=>none
  |.block id b=>match gS P E n rd b fl fr ms σ with
    |some ⟨.exit k,fr',ms',σ'⟩=>some ⟨if k=id then .normal else .exit k,fr',ms',σ'⟩
    |r=>r
  |.loop b=>match gS P E n rd b fl fr ms σ with
    |some ⟨.normal,fr',ms',σ'⟩=>gS P E n rd (.loop b) fl fr' ms' σ'
    |r=>r
  |.rangeFunc g ps assign body=>match aX fr g with
    |some (.func gf cap)=>EM (qH P E (gS P E n)) rd gf cap ps.toList assign body fl fr ms σ
    |_=>none
  |.exit id=>some ⟨.exit id,fr,ms,σ⟩
  |.ret=>some ⟨.ret,fr,ms,σ⟩
  |_=>none
def dG(P:Program)(E:aE)(n:Nat):bY:=qH P E (gS P E n)
end
section
open Go.RowKit
def CU(fl:Nat)(c:Cx)(p:PD)(σ':List aB):Ending->World->Prop
 |.returned v,w'=>Leaves fl c p σ' v w'
 |_,_=>False
structure Ok (F:Fence) (P:Program) (call:bY):Prop where
 fn:∀ {fl:Nat} {f:FuncId} {args:Ey} {c:Cx} {vs:Fa} {p:PD} {σ':Ex},call fl (.inl f) args c.σ=some (p,σ')->Sr c->Xw fl c->aS c vs args ->
  (∃fn,P.funcs[f]?=some fn/\fn.body.isSome=true)/\∀m,CallsIn F m P f vs.toArray c.w (CU fl c p σ')
 round:∀ {fl id l:Nat} {args:Ey} {c:Cx} {vs:Fa} {p:PD} {σ':Ex},call fl (.inr id) args c.σ=some (p,σ')->Sr c->Xw fl c->aS c vs args->c.D id->c.ρ id=.pointer (some ⟨l,0,none⟩) ->
  ∃g tmps asg bd,(Instr.yield l vs.toArray).run P c.w=.ok (.round l g tmps asg bd) c.w/\∀m,RoundIn F m P l g tmps asg bd c.w (CU fl c p σ')
structure Open (F:Fence) (P:Program):Prop where
 fn:∀f,F.fn f
 depth:F.depth=none
 name:∀(f:FuncId) fn,P.funcs[f]?=some fn->(fn.name== "runtime.NumGoroutine")=false
 alive:F.alive=false
section
variable{F:Fence}{P:Program}{call:bY}{c:Cx}{fl n:Nat}{Q:Exit->Act->World->Prop}
theorem Open.asks(hF:Open F P):F.depth.isSome=true->1<=n:=by rw[hF.depth];intro h;cases h
theorem ZV(hF:Open F P)(hc:Ok F P call)(hs:Sr c)(hX:Xw fl c){a:Act}{fr:Ey}(hf:FR c a fr){o:Oper}{p:PD}{σ':Ex}
  (h:bX P call fl fr c.σ o.op=some (p,σ')) {K:Act->World->Prop} (hK:∀v w',Leaves fl c p σ' v w'->K (a.put o.dst v) w'):o.wpIn F n P a c.w K Q:=by
 have hnd:∀d,o.op≠.defer d:=by
  intro d e;rw[e]at h;simp[bX,fJ,pop,dL,cJ]at h
 refine⟨λf _=>hF.fn f,?_⟩;rw[Oper.semAt_eq _ _ _ hnd];unfold bX at h;split at h
 .rename_i tg args htg;cases tg with
  |inl f=>
   obtain⟨vs0,aGH⟩:∃vs:List Value,aS c vs args:=by
    unfold fJ at htg;split at htg
    .split at htg
     .rename_i g args' ts f' cap qs h1 h2;simp only[yAb,yAc,yDM]at htg;obtain⟨rfl,rfl⟩:=htg;obtain⟨cs,e,hcs⟩:=(dO hf h1).HU;exact⟨_,(rL hf h2).append hcs⟩
     .rename_i f' first qs h1 h2;simp only[yAb,yAc,yDM]at htg;obtain⟨rfl,rfl⟩:=htg;obtain⟨cs,e,hcs⟩:=(dO hf h1).Z9;exact⟨_,hcs.append (rL hf h2)⟩
     .simp at htg
     .simp at htg
    .simp at htg
   obtain⟨⟨fn,hfn,hb⟩,_⟩:=hc.fn h hs hX aGH;obtain⟨vs,r,hvs⟩:=aGI (P:=P) hf htg hfn hb (hF.name f fn hfn);rw[r];refine⟨hF.asks,yCE ((hc.fn h hs hX hvs).2 _) λe w'' he=>?_⟩;exact lz
  |inr id=>
   obtain⟨l,vs,r,hvs,hd,hr⟩:=aGJ (P:=P) hf htg;obtain⟨g,tmps,asg,bd,ry,hround⟩:=hc.round h hs hX hvs hd hr;rw[r,ry];refine⟨hF.asks,RoundIn.mono (hround _) λe w'' he=>?_⟩;exact lz
 .obtain⟨v,w',hy,hl⟩:=aGK (P:=P) hs hX hf h;rcases hy with hy | ⟨hy,rfl⟩
  .rw[hy];exact hK v w' hl
  .rw[hy];exact hK undef w' hl
theorem FR.put{a:Act}{fr:Ey}(hf:FR c a fr){v:Value}{p:PD}(hv:VR c v p)(dst:Option Tmp):FR c (a.put dst v) (aW fr dst p):=by
 cases dst with
 |none=>exact hf
 |some d=>
  refine⟨⟨by simpa [Act.put,aW]using hf.1.1,λi u q h1 h2=>?_⟩,hf.2⟩;simp only[Act.put,aW,yE,yCV]at h1 h2
  by_cases e:d=i
  .subst e;simp only[yAK]at h1 h2;split at h1
   .split at h2
    .simp only[yAb]at h1 h2;subst h1 h2;exact hv
    .simp at h2
   .simp at h1
  .rw[yAI e]at h1 h2;exact hf.1.2 i u q h1 h2
theorem VR.undef(c:Cx):VR c undef (.aP []):=.aP [] [] rfl (λi v d h=>Am)
theorem VR.aAa{v:Value}{p:PD}(h:VR c v p)(b:Bool):v=.bool b↔p=.bool b:=by
 constructor
 .rintro rfl
  cases h with
  |bool=>rfl
  |fF _ h=>cases h
 .rintro rfl;cases h;rfl
theorem aGL{a:Act}{fr:Ey}(hf:FR c a fr)(ops:Array Oper)(j:Nat):yielded ops a.tmps j=bM ops fr j:=by
 unfold yielded bM;cases hd:(ops[j]?).bind (·.dst)with
 |none=>rfl
 |some d=>
  simp only[yCU];have hl:=hf.1.1;rcases yCe d fr.length with hlt|hge
  .have hlt':d<a.tmps.toList.length:=by rw[hl];exact hlt
   have e1:a.tmps[d]?=some (a.tmps.toList[d]):=by rw[<-yCH];exact yAh hlt'
   have e2:fr[d]?=some fr[d]:=yAh hlt;have hv:=hf.1.2 d _ _ (yAh hlt') e2;rw[e1,e2];cases hx:fr[d]with
   |bool b=>rw[hx]at hv;rw[(hv.aAa b).2 rfl]
   |_=>
    rw[hx]at hv;cases hy:a.tmps.toList[d]with
    |bool b=>rw[hy]at hv;have:=(hv.aAa b).1 rfl;cases this
    |_=>rfl
  .have e1:a.tmps[d]?=none:=by rw[<-yCH];exact yBF (by rw[hl];exact hge)
   rw[e1,yBF hge]
theorem ZU{a:Act}{fr:Ey}(hf:FR c a fr)(ops:Array Oper)(o:Oper):Region.wanted o (yielded ops a.tmps)=Region.wanted o (bM ops fr):=by
 have:yielded ops a.tmps=bM ops fr:=funext λj=>aGL hf ops j
 rw[this]
theorem ZG(hF:Open F P)(hc:Ok F P call){ops:Fc}:∀(l:List Oper) (i:Nat) (_:ops.toList.drop i=l) {c:Cx} (_:Sr c) (_:Xw fl c) {a:Act} {fr:Ey} (_:FR c a fr) {fr':Ey} {σ':Ex}
  (_:dE P call fl ops l fr c.σ=some (fr',σ'))
  (_:∀c' a',c'.σ=σ'->Sr c'->Nx fl c c'->FR c' a' fr'->a'.defers=a.defers->Q .normal a' c'.w),wpOpsIn F n P ops Q (List.range' i l.length) a c.w:=by
 intro l
 induction l with
 |nil=>
  intro i _ c hs hX a fr hf fr' σ' h hQ;simp only[dE,yAb,yAc]at h;obtain⟨rfl,rfl⟩:=h;exact hQ c a rfl hs (.refl _ _) hf rfl
 |cons o rest ih=>
  intro i hdrop c hs hX a fr hf fr' σ' h hQ;have hi:i<ops.toList.length:=by
   rcases yCe i ops.toList.length with h' | h'
   .exact h'
   .rw[yAs h']at hdrop;cases hdrop
  have ho:ops[i]?=some o:=by
   have:ops.toList[i]?=some o:=by
    have:=yAL List.head? hdrop;simpa [yCD]using this
   rw[<-yCH];exact this
  have wU:ops.toList.drop (i+1)=rest:=by
   rw[<-yBI,hdrop];rfl
  simp only[yAS,yDo,wpOpsIn,ho];rw[ZU hf];simp only[dE]at h;split at h
  .rename_i hw;rw[yAJ hw];split at h
   .rename_i p σ1 hst;refine ZV hF hc hs hX hf hst λv w' hl=>?_
    obtain⟨c',rfl,rfl,hs',nx,hv,_⟩:=hl;exact ih (i+1) wU hs' (hX.next hs nx) ((hf.mono nx).put hv _) h
     (λH3 oQ e1 e2 e3 e4 e5=>hQ H3 oQ e1 e2 (nx.trans e3) e4 (e5.trans (by cases o.dst<;>rfl)))
   .exact af
  .rename_i hw;rw[yAI hw];refine⟨λf _=>hF.fn f,?_⟩;exact ih (i+1) wU hs hX (hf.put (VR.undef c) _) h
    (λH3 oQ e1 e2 e3 e4 e5=>hQ H3 oQ e1 e2 e3 e4 (e5.trans (by cases o.dst<;>rfl)))
theorem aGe(hF:Open F P)(hc:Ok F P call){ops:Fc}{c:Cx}(hs:Sr c)(hX:Xw fl c){a:Act}{fr:Ey}(hf:FR c a fr){fr':Ey}{σ':Ex}
  (h:ME P call fl ops ops.toList fr c.σ=some (fr',σ'))
  (hQ:∀c' a',c'.σ=σ'->Sr c'->Nx fl c c'->FR c' a' fr'->a'.defers=a.defers->Q .normal a' c'.w):wpOpsIn F n P ops Q (List.range' 0 ops.toList.length) a c.w:=by
 unfold ME at h;split at h
 .rename_i d t len parts ty1 pos1 ed1 d2 s t' d' ty2 pos2 ed2 rest hops;split at h
  .rename_i e hu;split at h
   .rename_i he;split at h
    .rename_i hcond;obtain⟨hst,htt,hdd,hdl⟩:=hcond;subst hst;subst htt;subst hdd;split at h
     .rename_i ps hps;split at h
      .rename_i m xs hnew;obtain⟨a1,a2⟩:=MF hf hps;obtain⟨e',cells',uB,hrun,hv⟩:=aAb hs (vparts:=parts.toList.map λq=>(q.1,a.eval q.2)) hnew (by simpa using a1) (λi jv jp h3 h4=>by
        rw[yAo]at h4;cases hx:ps[i]? with
        |none=>rw[hx]at h4;simp at h4
        |some x=>
         rw[hx]at h4;simp only[yAC,yAb]at h4;subst h4;exact⟨(a2 i jv x h3 hx).1,(a2 i jv x h3 hx).2.strip⟩)
       obtain rfl:e=e':=by rw[hu]at uB;simpa using uB
       have hgr:=aGM c.w e cells';obtain⟨fz,hfz⟩:=aGN c.w e cells';have hvr:=hv _ fz hgr hfz;have hmk:=run_mark (P:=P) c.w cells' len len hu he;have nx:Nx fl c (c.at ((c.w.alloc (.cells cells' e)).freeze ⟨c.w.heap.size,cells'.size,none⟩ 1)):=Nx.grow hs hgr;have hs':=Sr.grow hs hgr;obtain⟨v,hvd⟩:∃v:Value,v=.slice (some ⟨c.w.heap.size,0,none⟩) len len:=⟨_,rfl⟩;rw[<-hvd]at hrun hvr hmk;have uY:=((hf.mono nx).put hvr (some d')).put hvr d2;have h0:ops[0]?=some ⟨some d',.buildSlice t' len parts,ty1,pos1,ed1,none⟩:=by rw[<-yCH,hops];rfl
       have h1:ops[1]?=some ⟨d2,.convert t' t' (.tmp d'),ty2,pos2,ed2,none⟩:=by rw[<-yCH,hops];rfl
       have hlen:ops.toList.length=rest.length+2:=by rw[hops];rfl
       rw[hlen,yDo,yDo];simp only[wpOpsIn,h0,h1,yAp];rw[yAJ (show Region.wanted _ _=true from rfl)];refine⟨λf _=>hF.fn f,?_⟩;rw[Oper.semAt_eq _ _ _ (by intro d e;cases e)];have earr:(Array.map (λx=>match x with|(i,x)=>(i,a.eval x)) parts)=(parts.toList.map λq=>(q.1,a.eval q.2)).toArray:=At;have lP:(execOp a.eval ⟨some d',.buildSlice t' len parts,ty1,pos1,ed1,none⟩).run P c.w=.ok (.value v) (c.w.alloc (.cells cells' e)):=by
        simp only[execOp,yBa];rw[earr,hrun];simp
       rw[lP];simp only[Oper.uponIn,Region.wanted,yAK];refine⟨λf _=>hF.fn f,?_⟩;rw[Oper.semAt_eq _ _ _ (by intro d e;cases e)];have hdt:d'<a.tmps.size:=by
        have h9:a.tmps.toList.length=_:=hf.1.1;rw[yBi]at h9;rw[h9];exact hdl
       have hev:(a.put (some d') v).eval (.tmp d')=v:=by simp[Act.eval,Act.put,hdt]
       have gT:(execOp (a.put (some d') v).eval ⟨d2,.convert t' t' (.tmp d'),ty2,pos2,ed2,none⟩).run P (c.w.alloc (.cells cells' e))=.ok (.value v) ((c.w.alloc (.cells cells' e)).freeze ⟨c.w.heap.size,cells'.size,none⟩ 1):=by
        simp only[execOp,yBa];rw[hev,hmk];simp
       rw[gT];exact ZG hF hc rest 2 (by rw[hops];rfl) hs' (hX.next hs nx) uY h (λH3 oQ e1 e2 e3 e4 e5=>hQ H3 oQ e1 e2 (nx.trans e3) e4 (e5.trans (by cases d2<;>rfl)))
      .cases h
     .cases h
    .cases h
   .cases h
  .cases h
 .cases h
end
end
section
open Go.RowKit
section
variable{P:Program}{fr fr':Ey}
theorem AS:∀(xs:List Operand),(∀x∈xs,aX fr x=aX fr' x)->jT fr xs=jT fr' xs
 | [],_=>rfl
 |x::xs,h=>by
  unfold jT;rw[h x yg,AS xs λy hy=>h y Aw]
theorem RB:∀(xs:List (Nat×Operand)),(∀x∈xs.map (·.2),aX fr x=aX fr' x)->pI fr xs=pI fr' xs
 | [],_=>rfl
 |(i,x)::xs,h=>by
  unfold pI;rw[h x yg,RB xs λy hy=>h y (by simp only[yAR,yBD];exact .inr hy)]
theorem ZW(op:Op)(h:∀x∈op.operands,aX fr x=aX fr' x):dL P fr op=dL P fr' op:=by
 cases op<;>simp only[Op.operands]at h<;>simp only[dL]
 case move x=>exact h x yg
 case assign x=>exact h x yg
 case pick a b c=>rw[h a yg,h b yg,h c yg]
 case binOp _ _ a b _=>rw[h a yg,h b yg]
 case unOp _ _ a=>rw[h a yg]
 case convert _ _ a=>rw[h a yg]
 case makeFunc fn first captured=>
  cases fn<;>simp only
  rw[AS captured.toList λx hx=>h x (by simp only[Array.mem_append];exact .inr Bc),AS first.toList λx hx=>h x (by simp only[Array.mem_append];exact .inl Bc)]
 case slice _ x lo hi mx=>
  have e:aX fr x=aX fr' x:=h x yg;have e1:lo.map (aX fr)=lo.map (aX fr'):=by cases lo with|none=>rfl|some y=>simp only[yAC];rw[h y yg]
  have e2:hi.map (aX fr)=hi.map (aX fr'):=by cases hi with|none=>rfl|some y=>simp only[yAC];rw[h y yg]
  have e3:mx.map (aX fr)=mx.map (aX fr'):=by cases mx with|none=>rfl|some y=>simp only[yAC];rw[h y yg]
  rw[e,e1,e2,e3]
 case fieldAddr _ a _=>rw[h a yg]
 case field _ a _=>rw[h a yg]
 case indexAddr _ a b=>rw[h a yg,h b yg]
 case index _ a b=>rw[h a yg,h b yg]
 case extract a _=>rw[h a yg]
 case nilCheck a=>rw[h a yg]
 case build _ ps=>rw[RB ps.toList λx hx=>h x Bc]
 case call c=>
  obtain⟨callee,args,ts⟩:=c;cases callee<;>simp only
  rw[AS args.toList λx hx=>h x Au]
theorem L9{fl:Nat}{σ:Ex}(hl:fr.length=fr'.length)(op:Op)(h:∀x∈op.operands,aX fr x=aX fr' x):cJ P fl fr σ op=cJ P fl fr' σ op:=by
 cases op<;>simp only[Op.operands]at h<;>simp only[cJ]
 case load _ a=>rw[h a yg]
 case store _ a b=>rw[h a yg,h b yg]
 case box _ a=>rw[h a yg]
 case convert _ _ a=>rw[h a yg]
 case makeSlice _ a b=>rw[h a yg,h b yg]
 case lookup _ a b _=>rw[h a yg,h b yg]
 case mapUpdate _ a b d=>rw[h a yg,h b yg,h d yg]
 case makeMap _ r=>cases r<;>rfl
 case buildSlice _ _ ps=>rw[RB ps.toList λx hx=>h x Bc]
 case call c=>
  obtain⟨callee,args,ts⟩:=c;cases callee<;>(try simp only)
  rename_i b;cases b<;>(try simp only)
  case append=>rw[AS args.toList λx hx=>h x Au,hl]
  case copy=>rw[AS args.toList λx hx=>h x Au]
  case clear=>rw[AS args.toList λx hx=>h x Au]
theorem aGG(op:Op)(h:∀x∈op.operands,aX fr x=aX fr' x):fJ fr op=fJ fr' op:=by
 cases op<;>simp only[Op.operands]at h<;>simp only[fJ]
 case call c=>
  obtain⟨callee,args,ts⟩:=c;cases callee<;>simp only
  rename_i g;rw[AS args.toList λx hx=>h x (by simp[Call.operands];exact .inr (yCc.1 hx)),h g (by simp[Call.operands])]
theorem ZX{call:bY}{fl:Nat}{σ:Ex}(hl:fr.length=fr'.length)(op:Op)(h:∀x∈op.operands,aX fr x=aX fr' x):bX P call fl fr σ op=bX P call fl fr' σ op:=by
 unfold bX pop;rw[aGG op h,ZW op h,L9 hl op h]
end
section
variable{c:Cx}{fl:Nat}
def Cx.mX(c:Cx)(w:World)(id:Nat)(v:Value):Cx:=
 { w:=w,ρ:=λi=>if i=id then v else c.ρ i,σ:=c.σ,D:=λi=>c.D i\/i=id,X:=c.X }
theorem mH{w:World}{v:Value}{id i:Nat}(h:¬c.D id)(hd:c.D i):(c.mX w id v).ρ i=c.ρ i:=by
 have:i≠id:=by rintro rfl;exact h hd
 simp[Cx.mX,this]
theorem AR{w:World}{v:Value}{id:Nat}:(c.mX w id v).ρ id=v:=by simp[Cx.mX]
theorem Nv.mX{w':World}{v:Value}{id:Nat}{p:PD}(hn:¬c.D id)(ho:c.σ[id]?=some (.box p))(h:c.w.grownBy w' none)(hv:∀b,aY v=some b->c.w.heap.size<=b):Nv c (c.mX w' id v) where
 cell:=λa u ha hu=>by
  have hlt:=yP hu;refine⟨⟨ha.1,λi o' hd ho'=>?_⟩,by show w'.cell? a=some u;rw[yCI (h.block a.block hlt yg)];exact hu⟩;rcases hd with hd|rfl
  .rw[mH hn hd];exact ha.2 i o' hd ho'
  .rw[AR];have:o'=.box p:=by
    have:c.σ[i]?=some o':=ho';rw[ho]at this;simpa using this.symm
   subst this;intro b hb e;have:=hv b hb;omega
 bA:=λ_ h=>.inl h
 rK:=λi p hd hp=>⟨mH hn hd,p,hp⟩
 mG:=λi hd hk=>⟨mH hn hd,hk⟩
 sJ:=λi e s n hd hk=>⟨n,hk,yAk _,λ_=>mH hn hd⟩
 sK:=λi e s v cs hd hk=>⟨v,cs,hk,yAk _,λ_=>mH hn hd⟩
theorem Sr.mX{w':World}{id b:Nat}{p:PD}{cs:Fb}{T:TypeId}(hs:Sr c)(hn:¬c.D id)(ho:c.σ[id]?=some (.box p))(h:c.w.grownBy w' none)(hb:c.w.heap.size<=b)
  (hw:w'.heap[b]?=some (.cells cs T (0,0))) (hv:aS c cs.toList p.cells) (h1:(∀v∈cs.toList,v.oneCell'=true)/\∀t ds,p=.typed t ds->T=t):Sr (c.mX w' id (.pointer (some ⟨b,0,none⟩))):=by
 have nv:Nv c (c.mX w' id (.pointer (some ⟨b,0,none⟩))):=Nv.mX hn ho h (λb' hb'=>by simp[aY]at hb';omega);have hgh:Gh (c.mX w' id (.pointer (some ⟨b,0,none⟩))):=λg hh=>by
  obtain⟨⟨cs',T',fz,e1,e2⟩,e3⟩:=hs.jA.2 g hh;refine⟨⟨cs',T',fz,by show w'.heap[g]?=_;rw[h.block g (fM e1) yg];exact e1,e2⟩,λi hd hb'=>?_⟩;rcases hd with hd|rfl
  .rw[mH hn hd]at hb';exact e3 i hd hb'
  .rw[AR]at hb';simp[aY]at hb';have:=fM e1;omega
 refine⟨?_,?_,?_,?_,?_,?_,?_,?_,?_,?_,hs.jA.1.mY nv,hgh⟩
 .intro i q hd hp;rcases hd with hd|rfl
  .obtain⟨b',cs',T',e1,e2,e3,e4⟩:=hs.box i q hd hp;exact⟨b',cs',T',(mH hn hd).trans e1,by show w'.heap[b']?=_;rw[h.block b' (fM e2) yg];exact e2,e3.mY nv,e4⟩
  .have:q=p:=by
    have h':c.σ[i]?=some (.box q):=hp;rw[ho]at h';simpa using h'.symm
   subst this;exact⟨b,cs,T,AR,hw,hv.mY nv,h1⟩
 .intro i e size n hd hp;rcases hd with hd|rfl
  .obtain⟨xs,hx⟩:=hs.own i e size n hd hp;rw[mH hn hd];exact⟨xs,AT hx (λg hg=>h.block g (hs.lt i g hd hg) yg)⟩
  .have h':c.σ[i]?=some (.own e size n):=hp;rw[ho]at h';simp at h'
 .intro i e size ver ds hd hp;rcases hd with hd|rfl
  .obtain⟨b',C,cur,e1,e2,e3,e4,e5,e6,e7,e8⟩:=hs.row i e size ver ds hd hp;exact⟨b',C,cur,(mH hn hd).trans e1,by show w'.heap[b']?=_;rw[h.block b' (fM e2) yg];exact e2,e3,e4,e5,e6,e7.mY nv,e8⟩
  .have h':c.σ[i]?=some (.row e size ver ds):=hp;rw[ho]at h';simp at h'
 .intro i es hd hp;rcases hd with hd|rfl
  .obtain⟨b',ents,clock,e1,e2,e3,e4⟩:=hs.map i es hd hp;exact⟨b',ents,clock,(mH hn hd).trans e1,by show w'.heap[b']?=_;rw[h.block b' (fM e2) yg];exact e2,e3.mY nv,e4.mY nv⟩
  .have h':c.σ[i]?=some (.map es):=hp;rw[ho]at h';simp at h'
 .intro i hd hm;rcases hd with hd|rfl
  .obtain⟨b',e1,e2⟩:=hs.mark i hd hm;exact⟨b',(mH hn hd).trans e1,by show w'.heap[b']?=_;rw[h.block b' (fM e2) yg];exact e2⟩
  .have h':c.σ[i]?=some .mark:=hm;rw[ho]at h';simp at h'
 .intro i st fr ps asg bd hd hm;rcases hd with hd|rfl
  .obtain⟨b',r,e1,e2,e3,e4,e5,e6,e7⟩:=hs.loop i st fr ps asg bd hd hm;exact⟨b',r,(mH hn hd).trans e1,by show w'.heap[b']?=_;rw[h.block b' (fM e2) yg];exact e2,e3,e4,e5,e6.mY nv,e7⟩
  .have h':c.σ[i]?=some (.loop st fr ps asg bd):=hm;rw[ho]at h';simp at h'
 .intro i j b' hd hd' hne hb1 hb2;rcases hd with hd|rfl
  .rw[mH hn hd]at hb1;rcases hd' with hd' | rfl
   .rw[mH hn hd']at hb2;exact hs.inj i j b' hd hd' hne hb1 hb2
   .rw[AR]at hb2;simp[aY]at hb2;have:=hs.lt i b' hd hb1;omega
  .rw[AR]at hb1;simp[aY]at hb1;rcases hd' with hd' | rfl
   .rw[mH hn hd']at hb2;have:=hs.lt j b' hd' hb2;omega
   .exact hne rfl
 .intro i b' hd hb1;rcases hd with hd|rfl
  .rw[mH hn hd]at hb1;exact yBP (hs.lt i b' hd hb1) h.size
  .rw[AR]at hb1;simp[aY]at hb1;subst hb1;exact fM hw
 .intro i hd;rcases hd with hd|rfl
  .exact hs.bA i hd
  .exact(yA.1 ho).1
 .exact λa ha=>hs.fresh a (yAW h.size ha)
theorem Nx.mX{c0:Cx}{w':World}{v:Value}{id:Nat}{p:PD}(n0:Nx fl c0 c)(hn:¬c.D id)(ho:c.σ[id]?=some (.box p))(h:c.w.grownBy w' none)(hv:∀b,aY v=some b->c.w.heap.size<=b)
  (hid:c0.σ.length<=id):Nx fl c0 (c.mX w' id v) where
 X:=n0.X
 os:=h.os.trans n0.os
 tape:=h.tape.trans n0.tape
 output:=h.output.trans n0.output
 size:=yAW n0.size h.size
 len:=n0.len
 cell:=λa u ha hu=>let ⟨q1,q2⟩:=n0.cell a u ha hu;(Nv.mX hn ho h hv).cell a u q1 q2
 bA:=λi hd=>.inl (n0.bA i hd)
 new:=λi hd=>by rcases hd with hd|rfl;exact n0.new i hd;exact .inr hid
 rK:=λi q hd hq=>by
  obtain⟨e,q',cK⟩:=n0.rK i q hd hq;exact⟨(mH hn (n0.bA i hd)).trans e,q',cK⟩
 mG:=λi hd hk=>by
  obtain⟨e,hk'⟩:=n0.mG i hd hk;exact⟨(mH hn (n0.bA i hd)).trans e,hk'⟩
 sJ:=λi e s n hd hk=>by
  obtain⟨n',h1,h2,h3⟩:=n0.sJ i e s n hd hk;exact⟨n',h1,h2,λhh=>(mH hn (n0.bA i hd)).trans (h3 hh)⟩
 sK:=λi e s v cs hd hk=>by
  obtain⟨v0,cs0,h1,h2,h3⟩:=n0.sK i e s v cs hd hk;exact⟨v0,cs0,h1,h2,λhh=>(mH hn (n0.bA i hd)).trans (h3 hh)⟩
 back:=λi b hd hb hlt=>by
  rcases hd with hd|rfl
  .rw[mH hn hd]at hb;exact n0.back i b hd hb hlt
  .rw[AR]at hb;have:=hv b hb;have:=n0.size;omega
 frame:=λk hk hx=>(h.block k (yBP hk n0.size) yg).trans (n0.frame k hk hx)
 ro:=n0.ro
 hole:=n0.hole
def Cx.ahead(c:Cx)(l:List aB):Cx:={ c with σ:=c.σ++l }
theorem sL{l:Ex}{id:Nat}(h:id<c.σ.length):(c.ahead l).σ[id]?=c.σ[id]?:=by simp[Cx.ahead,yAg h]
theorem Nx.ahead(hs:Sr c)(l:List aB):Nx fl c (c.ahead l) where
 X:=rfl
 os:=rfl
 tape:=rfl
 output:=rfl
 size:=yAk _
 len:=by simp[Cx.ahead]
 cell:=λa v ha hv=>⟨⟨ha.1,λid o hd ho=>ha.2 id o hd (by rw[sL (hs.bA id hd)]at ho;exact ho)⟩,hv⟩
 bA:=λ_ h=>h
 new:=λ_ h=>.inl h
 rK:=λid p hd h=>⟨rfl,p,De⟩
 mG:=λid hd h=>⟨rfl,De⟩
 sJ:=λid e s n hd h=>⟨n,De,yAk _,λ_=>rfl⟩
 sK:=λid e s v cs hd h=>⟨v,cs,by rw[sL (hs.bA id hd)]at h;exact h,yAk _,λ_=>rfl⟩
 back:=λ_ _ h h' _=>⟨h,h'⟩
 frame:=λ_ _ _=>rfl
 ro:=λid _ h=>sL h
 hole:=λid h _=>sL h
theorem Sr.ahead(hs:Sr c)(l:List aB):Sr (c.ahead l) where
 box:=λid p hd hp=>by
  rw[sL (hs.bA id hd)]at hp;obtain⟨b,cs,T,e1,e2,e3,e4⟩:=hs.box id p hd hp;exact⟨b,cs,T,e1,e2,e3.mono (Nx.ahead (fl:=0) hs l),e4⟩
 own:=λid e size n hd ho=>by rw[sL (hs.bA id hd)]at ho;exact hs.own id e size n hd ho
 row:=λid e size ver ds hd ho=>by
  rw[sL (hs.bA id hd)]at ho;obtain⟨b,C,cur,e1,e2,e3,e4,e5,e6,e7,e8⟩:=hs.row id e size ver ds hd ho;exact⟨b,C,cur,e1,e2,e3,e4,e5,e6,e7.mono (Nx.ahead (fl:=0) hs l),e8⟩
 map:=λid es hd ho=>by
  rw[sL (hs.bA id hd)]at ho;obtain⟨b,ents,clock,e1,e2,e3,e4⟩:=hs.map id es hd ho;exact⟨b,ents,clock,e1,e2,e3.mono (Nx.ahead (fl:=0) hs l),e4.mono (Nx.ahead (fl:=0) hs l)⟩
 mark:=λid hd hm=>by rw[sL (hs.bA id hd)]at hm;exact hs.mark id hd hm
 loop:=λid st fr ps asg bd hd hl=>by
  rw[sL (hs.bA id hd)]at hl;obtain⟨b,r,e1,e2,e3,e4,e5,e6,e7⟩:=hs.loop id st fr ps asg bd hd hl;exact⟨b,r,e1,e2,e3,e4,e5,e6.mono (Nx.ahead (fl:=0) hs l),e7⟩
 inj:=hs.inj
 lt:=hs.lt
 bA:=λid hd=>by have:=hs.bA id hd;simp[Cx.ahead];omega
 fresh:=hs.fresh
 jA:=hs.jA.mono (Nx.ahead (fl:=0) hs l)
end
end
section
open Go.RowKit
theorem aGF{acc:List Nat}{o:Oper}{k:Nat}(h:(wR acc o).testBit k=true) :
  ∃e∈o.after,Region.binds .any e=true/\(e.on=k\/(acc.getD e.on 0).testBit k=true):=by
 have key:∀(l:List Edge) (s:Nat),(l.foldl (λs e=>if Region.binds .any e then s ||| 2^e.on ||| acc.getD e.on 0 else s) s).testBit k=true ->
   s.testBit k=true\/∃e∈l,Region.binds .any e=true/\(e.on=k\/(acc.getD e.on 0).testBit k=true):=by
  intro l
  induction l with
  |nil=>intro s h;exact .inl h
  |cons e l ih=>
   intro s h;simp only[yDm]at h;rcases ih _ h with h1 | ⟨e',h2,h3⟩
   .split at h1
    .rename_i hb;simp only[Nat.testBit_or,Nat.testBit_two_pow,yBp,yBY]at h1;rcases h1 with(h1|h1)|h1
     .exact .inl h1
     .exact .inr ⟨e,yg,hb,.inl h1⟩
     .exact .inr ⟨e,yg,hb,.inr h1⟩
    .exact .inl h1
   .exact .inr ⟨e',by simp[h2],h3⟩
 rcases key _ _ h with h1 | ⟨e,h2,h3⟩
 .simp at h1
 .exact⟨e,yCc.1 h2,h3⟩
theorem Q8:∀(l:List Oper) (acc:List Nat),(bW l acc).take acc.length=acc
 | [],acc=>by simp[bW]
 |o::r,acc=>by
  have:=Q8 r (acc++[wR acc o]);simp only[bW];have h2:acc.length<=(acc++[wR acc o]).length:=yg;have h3:=yAL (List.take acc.length) this;rw[yCi,yBS h2]at h3;rw[h3];simp
theorem Z5:∀(l:List Oper) (acc:List Nat) (i:Nat),(bW l acc)[acc.length+i]?=(l[i]?).map λo=>wR ((bW l acc).take (acc.length+i)) o
 | [],acc,i=>by simp[bW]
 |o::r,acc,0=>by
  have h1:=Q8 (o::r) acc;have h2:=Q8 r (acc++[wR acc o]);simp only[yBt,h1,yBC,yAC];have h3:(bW (o::r) acc)[acc.length]?=((bW r (acc++[wR acc o])).take (acc++[wR acc o]).length)[acc.length]?:=by
   rw[yAv,yAJ yg];rfl
  rw[h3,h2];simp
 |o::r,acc,i+1=>by
  have:=Z5 r (acc++[wR acc o]) i;simp only[yAa,yDK]at this;simp only[bW,yBT];rw[show acc.length+(i+1)=acc.length+1+i by omega];exact this
section
variable{ops:Fc}
theorem Q9{i k:Nat}(h:((bW ops.toList []).getD i 0).testBit k=true) :
  ∃o,ops[i]?=some o/\∃e∈o.after,Region.binds .any e=true/\(e.on=k\/(((bW ops.toList []).take i).getD e.on 0).testBit k=true):=by
 have h1:=Z5 ops.toList [] i;simp only[yAT,yAp,yCH]at h1;rw[yAA,h1]at h;cases ho:ops[i]? with
 |none=>rw[ho]at h;simp at h
 |some o=>
  rw[ho]at h;simp only[yAC,yDk]at h;exact⟨o,rfl,aGF h⟩
theorem RA{l:List Nat}{i j:Nat}(h:j<i):(l.take i).getD j 0=l.getD j 0:=by
 simp[yAA,h]
structure qM (ops:Array Oper) (ms:List Nat):Prop where
 aSP:Region.noSelect ops=true
 shape:∀(i:Nat) (o:Oper),ops[i]?=some o->(dW o.op||dM o.op||cE o.op||kY o.op||dN o.op)=true
 once:∀(i:Nat) (o:Oper) (j:Nat) (oj:Oper) (d:Tmp),ops[i]?=some o->ops[j]?=some oj->j≠i->oj.dst=some d->o.dst≠some d
 looks:∀(i:Nat) (o:Oper) (j:Nat) (oj:Oper) (d:Tmp),ops[i]?=some o->ops[j]?=some oj->j≠i->oj.dst=some d->d∈o.looksAt ops ->
  (j<i->∃e∈o.after,Region.binds .any e=true/\e.on=j)/\(i<j->∃e∈oj.after,Region.binds .any e=true/\e.on=i)
 down:∀(i:Nat) (o:Oper),ops[i]?=some o->∀e∈o.after,Region.binds .any e=true->e.on<i
 ord:∀(i:Nat) (o:Oper) (j:Nat) (oj:Oper),ops[i]?=some o->ops[j]?=some oj->dN o.op=true->dN oj.op=true->j<i->(ms.getD i 0).testBit j=true
theorem MA{f:Op->Bool}{i:Nat}{o:Oper}(h:ops[i]?=some o):dZ f ops.toList i=f o.op:=by
 simp[dZ,h]
theorem oT{i:Nat}{o:Oper}(h:ops[i]?=some o):i<ops.size:=(yDE.1 h).1
theorem AM{ms:List Nat}(h:tT ops ms=true):qM ops ms:=by
 simp only[tT,yAr,yAn,yAU]at h;obtain⟨h0,h⟩:=h;have at':∀(i:Nat) (o:Oper),ops[i]?=some o->_:=λi o ho=>by
  have:=h i (oT ho);simp only[ho,yAr]at this;exact this
 have ssa:∀(i:Nat) (o:Oper) (j:Nat) (oj:Oper) (d:Tmp),ops[i]?=some o->ops[j]?=some oj->j≠i->oj.dst=some d->_:=λi o j oj d ho hoj hne hd=>by
  have:=(at' i o ho).1.1.2;simp only[Z6,yAn,yAU]at this;have:=this j (oT hoj);simp only[hoj,hd,yBp,yCd,hne,false_or,yAr]at this;exact this
 refine⟨h0,λi o ho=>(at' i o ho).1.1.1,?_,?_,?_,?_⟩
 .intro i o j oj d ho hoj hne hd;simpa using(ssa i o j oj d ho hoj hne hd).1
 .intro i o j oj d ho hoj hne hd hl;have:=(ssa i o j oj d ho hoj hne hd).2;simp only[yBq,List.contains_eq_mem,yDW,hl,yBL,false_or]at this;refine⟨λhlt=>?_,λhlt=>?_⟩
  .rw[yAJ hlt]at this;exact ni
  .rw[yAI ye]at this;exact ni
 .intro i o ho e he hb;have:=Array.all_eq_true'.1 (at' i o ho).1.2 e he;simpa [hb]using this
 .intro i o j oj ho hoj hw hwj hlt;have:=(at' i o ho).2;simp only[hw,yBR,yCf,yAn,yAU]at this;have:=this j hlt;rw[MA hoj,hwj]at this;exact bq
def Lt(listed:Array Bool)(i:Nat):Prop:=listed[i]?=some true
def MB(ops:Array Oper)(S:Nat->Prop):Prop:=∀(i:Nat) (o:Oper),S i->ops[i]?=some o->∀e∈o.after,Region.binds .any e=true->S e.on
theorem ZZ(hr:∀(i:Nat) (o:Oper),ops[i]?=some o->∀e∈o.after,Region.binds .any e=true->e.on<i):∀(i k:Nat),((bW ops.toList []).getD i 0).testBit k=true->k<i:=by
 intro i
 induction i using Nat.strongRecOn with
 |_ i ih=>
  intro k h;obtain⟨o,ho,e,he,hb,h⟩:=Q9 h;have hlt:=hr i o ho e he hb;rcases h with rfl|h
  .exact hlt
  .rw[RA hlt]at h;exact Nat.lt_trans (ih _ hlt _ h) hlt
theorem Z0(hr:∀(i:Nat) (o:Oper),ops[i]?=some o->∀e∈o.after,Region.binds .any e=true->e.on<i){S:Nat->Prop}(hS:MB ops S):∀(i k:Nat),S i->((bW ops.toList []).getD i 0).testBit k=true->S k:=by
 intro i
 induction i using Nat.strongRecOn with
 |_ i ih=>
  intro k hi h;obtain⟨o,ho,e,he,hb,h⟩:=Q9 h;have hlt:=hr i o ho e he hb;have hs:=hS i o hi ho e he hb;rcases h with rfl|h
  .exact hs
  .rw[RA hlt]at h;exact ih _ hlt _ hs h
theorem ZT(hr:∀(i:Nat) (o:Oper),ops[i]?=some o->∀e∈o.after,Region.binds .any e=true->e.on<i){S:Nat->Prop}(hS:MB ops S){i k:Nat}{o:Oper}(ho:ops[i]?=some o)
  (hi:∀e∈o.after,Region.binds .any e=true->S e.on) (h:((bW ops.toList []).getD i 0).testBit k=true):S k:=by
 obtain⟨o',ho',e,he,hb,h⟩:=Q9 h;rw[ho]at ho';simp only[yAb]at ho';subst ho';have hlt:=hr i o ho e he hb;rcases h with rfl|h
 .exact hi e he hb
 .rw[RA hlt]at h;exact Z0 hr hS _ _ (hi e he hb) h
structure oU (ops:Array Oper) (ps:Nat->PD) (fE:List PD) (S:Nat->Prop) (fr:List PD):Prop where
 len:fr.length=fE.length
 slot:∀x,(∃(j:Nat) (o:Oper),ops[j]?=some o/\S j/\o.dst=some x/\(x<fE.length->fr[x]?=some (ps j)))\/((∀(j:Nat) (o:Oper),ops[j]?=some o->S j->o.dst≠some x)/\fr[x]?=fE[x]?)
variable{ps:Nat->PD}{fE fr fr':Ey}{S T:Nat->Prop}
theorem oU.start(h:∀j,¬S j):oU ops ps fE S fE:=⟨rfl,λ_=>.inr ⟨λj _ _ hj=>absurd hj (h j),rfl⟩⟩
theorem oU.congr(h:oU ops ps fE S fr)(hST:∀j,S j↔T j):oU ops ps fE T fr:=
 ⟨h.len,λx=>(h.slot x).imp (λ⟨j,o,a,b,r⟩=>⟨j,o,a,(hST j).1 b,r⟩) (λ⟨a,b⟩=>⟨λj o ho hj=>a j o ho ((hST j).2 hj),b⟩)⟩
theorem oU.put{ms:List Nat}(hr:qM ops ms)(h:oU ops ps fE S fr){i:Nat}{o:Oper}(ho:ops[i]?=some o):oU ops ps fE (λj=>S j\/j=i) (aW fr o.dst (ps i)):=by
 cases hd:o.dst with
 |none=>
  refine⟨h.len,λx=>(h.slot x).imp (λ⟨j,o',a,b,r⟩=>⟨j,o',a,.inl b,r⟩) (λ⟨a,b⟩=>⟨λj o' ho' hj=>?_,b⟩)⟩;rcases hj with hj|rfl
  .exact a j o' ho' hj
  .rw[ho]at ho';simp only[yAb]at ho';subst ho';rw[hd];simp
 |some d=>
  refine⟨by simpa [aW]using h.len,λx=>?_⟩
  by_cases e:x=d
  .subst e;exact .inl ⟨i,o,ho,.inr rfl,hd,λhx=>by simp[aW,yCV,h.len,hx]⟩
  .have hne:(aW fr (some d) (ps i))[x]?=fr[x]?:=by simp[aW,yAd (yBb e)]
   rw[hne];refine(h.slot x).imp (λ⟨j,o',a,b,r⟩=>⟨j,o',a,.inl b,r⟩) (λ⟨a,b⟩=>⟨λj o' ho' hj=>?_,b⟩);rcases hj with hj|rfl
   .exact a j o' ho' hj
   .rw[ho]at ho';simp only[yAb]at ho';subst ho';rw[hd];simpa using yBb e
theorem oU.agree{ms:List Nat}(hr:qM ops ms)(h:oU ops ps fE S fr)(h':oU ops ps fE T fr'){x:Nat}(hx:∀(j:Nat) (o:Oper),ops[j]?=some o->o.dst=some x->(S j↔T j)):fr[x]?=fr'[x]?:=by
 rcases h.slot x with⟨j,o,ho,hj,hd,hv⟩ | ⟨hno,hv⟩
 .rcases h'.slot x with⟨j',o',ho',hj',hd',qN⟩ | ⟨Z7,qN⟩
  .have:j'=j:=by
    rcases Nat.decEq j' j with hne|heq
    .exact absurd hd (hr.once j o j' o' x ho ho' hne hd')
    .exact heq
   subst this;rcases yCe x fE.length with hlt|hge
   .rw[hv hlt,qN hlt]
   .rw[yBF (by rw[h.len];exact hge),yBF (by rw[h'.len];exact hge)]
  .exact absurd hd (Z7 j o ho ((hx j o ho hd).1 hj))
 .rcases h'.slot x with⟨j',o',ho',hj',hd',qN⟩ | ⟨Z7,qN⟩
  .exact absurd hd' (hno j' o' ho' ((hx j' o' ho' hd').2 hj'))
  .rw[hv,qN]
theorem oU.same{ms:List Nat}(hr:qM ops ms)(h:oU ops ps fE S fr)(h':oU ops ps fE T fr')(hx:∀(j:Nat) (o:Oper),ops[j]?=some o->(S j↔T j)):fr=fr':=
 yCp λ_=>h.agree hr h' λj o ho _=>hx j o ho
def fX(ops:List Oper)(i:Nat):Nat:=((ops.take i).filter λo=>cE o.op).length
theorem MD{l:List Oper}{i:Nat}{o:Oper}(h:l[i]?=some o):fX l (i+1)=fX l i+if cE o.op then 1 else 0:=by
 unfold fX;rw[List.take_add_one,h];simp only[Option.toList_some,List.filter_append,yAa]
 congr 1
 by_cases hs:cE o.op=true<;>simp[hs]
theorem Z8{l:List Oper}{i j:Nat}(h:i<=j):fX l i<=fX l j:=by
 unfold fX;have:l.take i=(l.take j).take i:=by rw[yCi,yBS h]
 rw[this];exact((List.take_sublist i (l.take j)).filter _).length_le
theorem aGu{l:List Oper}{i j:Nat}{o oj:Oper}(hi:l[i]?=some o)(hj:l[j]?=some oj)(hs:cE o.op=true)(hsj:cE oj.op=true)(hne:i≠j):fX l i≠fX l j:=by
 rcases Nat.lt_or_gt_of_ne hne with h|h
 .have:=Z8 (l:=l) (Nat.succ_le_of_lt h);rw[Nat.succ_eq_add_one,MD hi,yAJ hs]at this;omega
 .have:=Z8 (l:=l) (Nat.succ_le_of_lt h);rw[Nat.succ_eq_add_one,MD hj,yAJ hsj]at this;omega
theorem Q5{P:Program}:∀ {l:List Oper} {hs:Ex},lA P l=some hs->∀(i:Nat) (o:Oper) (t:TypeId),l[i]?=some o->o.op=.alloc t ->
  ∃z,eE P t=some z/\z.cells.all PD.plain=true/\hs[fX l i]?=some (.box (boxed t z))
 | [],hs,h,i,o,t,hi,_=>by simp at hi
 |o'::r,hs,h,0,o,t,hi,ht=>by
  simp only[yBC,yAb]at hi;subst hi;unfold lA at h;rw[ht]at h;simp only at h;split at h
  .rename_i p l hp hl;split at h
   .rename_i hpl;simp only[yAb]at h;subst h;exact⟨p,hp,hpl,by simp[fX]⟩
   .exact af
  .exact af
 |o'::r,hs,h,i+1,o,t,hi,ht=>by
  simp only[yBT]at hi;unfold lA at h;split at h
  .rename_i t' ht';split at h
   .rename_i p l hp hl;split at h
    .rename_i hpl;simp only[yAb]at h;subst h;obtain⟨z,h1,h2,h3⟩:=Q5 hl i o t hi ht;refine⟨z,h1,h2,?_⟩;have:fX (o'::r) (i+1)=fX r i+1:=by simp[fX,ht',cE]
     rw[this,yBT];exact h3
    .exact af
   .exact af
  .rename_i hne;obtain⟨z,h1,h2,h3⟩:=Q5 h i o t hi ht;refine⟨z,h1,h2,?_⟩;have hna:cE o'.op=false:=by
    cases ho:o'.op<;>first|rfl|exact absurd ho (hne _)
   have:fX (o'::r) (i+1)=fX r i:=by simp[fX,hna]
   rw[this];exact h3
structure H0 (P:Program) (call:bY) (fl:Nat) (ops:Array Oper) (ms:List Nat) (k0:Nat) (frs:Nat->List PD) (σs:Nat->List aB) (ps:Nat->PD) (ft:Nat->Option Nat) (z:Nat->Bool) (i:Nat) (o:Oper):Prop where
 put:frs (i+1)=aW (frs i) o.dst (ps i)
 run:Region.wanted o (bM ops (frs i))=true->fL P call fl (z i) (k0+fX ops.toList i) (frs i) (σs i) o.op=some (ps i,σs (i+1))/\ft i=j6 (frs i) o.op
 skip:Region.wanted o (bM ops (frs i))=false->ps i=.aP []/\σs (i+1)=σs i
theorem aGy{P:Program}{call:bY}{fl k0:Nat}{ms:List Nat}:∀(l:List Oper) (i k:Nat) (fr:List PD) (σ:List aB) (tr:List TE) (fr':List PD) (σ':List aB),ops.toList.drop i=l->k=k0+fX ops.toList i ->
  eL P call fl ops ms i k l fr σ=some (tr,fr',σ')->∃(frs:Nat->List PD) (σs:Nat->List aB) (ps:Nat->PD) (ft:Nat->Option Nat),frs i=fr/\σs i=σ/\frs (i+l.length)=fr'/\σs (i+l.length)=σ' /\
   (∀(j:Nat) (o:Oper),i<=j->ops[j]?=some o->H0 P call fl ops ms k0 frs σs ps ft (λi=>jC ops.toList ms i) j o)/\(∀j,i<=j->j<i+l.length->ft j=(tr[j-i]?).bind TE.iJ):=by
 intro l
 induction l with
 |nil=>
  intro i k fr σ tr fr' σ' hdrop hk h;simp only[eL,yAb,yAc]at h;obtain⟨rfl,rfl,rfl⟩:=h;refine⟨λ_=>fr,λ_=>σ,λ_=>default,λ_=>none,rfl,rfl,rfl,rfl,λj o hj ho=>?_,λj h1 h2=>absurd h2 zf⟩;exact om
 |cons o rest ih=>
  intro i k fr σ tr fr' σ' hdrop hk h;have ho:ops[i]?=some o:=by
   exact vw
  have wU:ops.toList.drop (i+1)=rest:=by rw[<-yBI,hdrop];rfl
  have hk':(if cE o.op then k+1 else k)=k0+fX ops.toList (i+1):=by
   rw[MD Bd,hk];split<;>omega
  simp only[eL]at h;have lift:∀(p:PD) (σ1:List aB) (iJ:Option Nat) (oV:List TE),eL P call fl ops ms (i+1) (if cE o.op then k+1 else k) rest (aW fr o.dst p) σ1=some (oV,fr',σ') ->
    tr=⟨fr,σ,p,iJ⟩::oV->(Region.wanted o (bM ops fr)=true->fL P call fl (jC ops.toList ms i) (k0+fX ops.toList i) fr σ o.op=some (p,σ1)/\iJ=j6 fr o.op) ->
    (Region.wanted o (bM ops fr)=false->p=.aP []/\σ1=σ)->∃(frs:Nat->List PD) (σs:Nat->List aB) (ps:Nat->PD) (ft:Nat->Option Nat),frs i=fr/\σs i=σ/\frs (i+(o::rest).length)=fr'/\σs (i+(o::rest).length)=σ' /\
   (∀(j:Nat) (o:Oper),i<=j->ops[j]?=some o->H0 P call fl ops ms k0 frs σs ps ft (λi=>jC ops.toList ms i) j o)/\(∀j,i<=j->j<i+(o::rest).length->ft j=(tr[j-i]?).bind TE.iJ):=by
   intro p σ1 iJ oV h1 htr hrun hskip;obtain⟨frs,σs,ps,ft,e1,e2,e3,e4,h5,h6⟩:=ih (i+1) _ _ _ _ _ _ wU hk' h1;refine⟨λj=>if j=i then fr else frs j,λj=>if j=i then σ else σs j,λj=>if j=i then p else ps j,λj=>if j=i then iJ else ft j,yg,yg,?_,?_,?_,?_⟩
   .exact jo
   .exact jq
   .intro j oj hj hoj
    by_cases e:j=i
    .exact dy
    .have h7:=h5 j oj ye hoj;have hne:j+1≠i:=ye;refine⟨?_,?_,?_⟩
     .simp only[yAI e,yAI hne];exact h7.put
     .simp only[yAI e,yAI hne];exact h7.run
     .simp only[yAI e,yAI hne];exact h7.skip
   .exact gy
  exact vj
theorem aGz{P:Program}{call:bY}{fl k0:Nat}{ms:List Nat}:∀(l:List Oper) (i k:Nat) (fr:List PD) (σ:List aB) (tr:List TE) (fr':List PD) (σ':List aB),ops.toList.drop i=l->k=k0+fX ops.toList i ->
  oH P call fl ops i k l fr σ=some (tr,fr',σ')->∃(frs:Nat->List PD) (σs:Nat->List aB) (ps:Nat->PD) (ft:Nat->Option Nat),frs i=fr/\σs i=σ/\frs (i+l.length)=fr'/\σs (i+l.length)=σ' /\
   (∀(j:Nat) (o:Oper),i<=j->ops[j]?=some o->H0 P call fl ops ms k0 frs σs ps ft (λ_=>true) j o)/\(∀j,i<=j->j<i+l.length->ft j=(tr[j-i]?).bind TE.iJ)/\(∀j,i<=j->σs j=TE.at tr σ' (j-i)):=by
 intro l
 induction l with
 |nil=>
  intro i k fr σ tr fr' σ' hdrop hk h;simp only[oH,yAb,yAc]at h;obtain⟨rfl,rfl,rfl⟩:=h;refine⟨λ_=>fr,λ_=>σ,λ_=>default,λ_=>none,rfl,rfl,rfl,rfl,λj o hj ho=>?_,λj h1 h2=>absurd h2 zf,λj _=>by simp[TE.at]⟩;exact om
 |cons o rest ih=>
  intro i k fr σ tr fr' σ' hdrop hk h;have ho:ops[i]?=some o:=by
   exact vw
  have wU:ops.toList.drop (i+1)=rest:=by rw[<-yBI,hdrop];rfl
  have hk':(if cE o.op then k+1 else k)=k0+fX ops.toList (i+1):=by
   rw[MD Bd,hk];split<;>omega
  simp only[oH]at h;have lift:∀(p:PD) (σ1:List aB) (iJ:Option Nat) (oV:List TE),oH P call fl ops (i+1) (if cE o.op then k+1 else k) rest (aW fr o.dst p) σ1=some (oV,fr',σ') ->
    tr=⟨fr,σ,p,iJ⟩::oV->(Region.wanted o (bM ops fr)=true->fL P call fl (true) (k0+fX ops.toList i) fr σ o.op=some (p,σ1)/\iJ=j6 fr o.op) ->
    (Region.wanted o (bM ops fr)=false->p=.aP []/\σ1=σ)->∃(frs:Nat->List PD) (σs:Nat->List aB) (ps:Nat->PD) (ft:Nat->Option Nat),frs i=fr/\σs i=σ/\frs (i+(o::rest).length)=fr'/\σs (i+(o::rest).length)=σ' /\
   (∀(j:Nat) (o:Oper),i<=j->ops[j]?=some o->H0 P call fl ops ms k0 frs σs ps ft (λ_=>true) j o)/\(∀j,i<=j->j<i+(o::rest).length->ft j=(tr[j-i]?).bind TE.iJ)/\(∀j,i<=j->σs j=TE.at tr σ' (j-i)):=by
   intro p σ1 iJ oV h1 htr hrun hskip;obtain⟨frs,σs,ps,ft,e1,e2,e3,e4,h5,h6,h7⟩:=ih (i+1) _ _ _ _ _ _ wU hk' h1;refine⟨λj=>if j=i then fr else frs j,λj=>if j=i then σ else σs j,λj=>if j=i then p else ps j,λj=>if j=i then iJ else ft j,yg,yg,?_,?_,?_,?_,?_⟩
   .exact jo
   .exact jq
   .intro j oj hj hoj
    by_cases e:j=i
    .exact dy
    .have h8:=h5 j oj ye hoj;have hne:j+1≠i:=ye;refine⟨?_,?_,?_⟩
     .simp only[yAI e,yAI hne];exact h8.put
     .simp only[yAI e,yAI hne];exact h8.run
     .simp only[yAI e,yAI hne];exact h8.skip
   .exact gy
   .intro j hj
    by_cases e:j=i
    .subst e;simp[htr,TE.at]
    .simp only[yAI e];rw[h7 j ye,htr,show j-i=(j-(i+1))+1 by omega];simp[TE.at]
  exact vj
end
end
section
open Go.RowKit
section
variable{P:Program}{call:bY}{fl k:Nat}{free:Bool}{fr:Ey}{σ σ':Ex}{op:Op}{p:PD}
theorem HS(h:dM op=true\/kY op=true\/eW op=true):dL P fr op=none/\fJ fr op=none/\dW op=false/\cE op=false/\cU op=false:=by
 by_cases hc:∃s d x,op=.convert s d x
 .obtain⟨s,d,x,rfl⟩:=hc;have ht:CN s d=true:=by rcases h with h|h|h<;>first|exact h|cases h
  exact⟨by simp only[dL,ht,yAK],rfl,by simp only[dW,ht,yBR],rfl,rfl⟩
 cases op<;>simp[dM,kY,eW]at h hc<;>simp[dL,fJ,dW,cE,cU]
theorem ZD(h:dW op=true):fJ fr op=none/\cE op=false/\dN op=false/\dM op=false:=by
 by_cases hc:∃s d x,op=.convert s d x
 .obtain⟨s,d,x,rfl⟩:=hc;have ht:CN s d=false:=by simpa only[dW,yBq]using h
  exact⟨rfl,rfl,rfl,ht⟩
 cases op<;>simp[dW]at h hc<;>simp[fJ,cE,dN,eW,cU,dM]
 rename_i c;obtain⟨callee,args,ts⟩:=c;cases callee<;>simp at h ⊢
 rename_i b;cases b<;>simp at h ⊢
theorem aGB(h:cU op=true):dW op=false/\cE op=false/\dM op=false/\eW op=false:=by
 cases op<;>simp[cU]at h<;>simp[dW,cE,dM,eW]
 rename_i c;obtain⟨callee,args,ts⟩:=c;cases callee with
 |value f=>rfl
 |invoke r m=>simp at h
 |builtin b=>cases b<;>simp at h ⊢
theorem aGs(h:cE op=true):dW op=false/\dN op=false/\dM op=false/\∃t,op=.alloc t:=by
 cases op<;>simp[cE]at h<;>simp[dW,dN,eW,cU,dM]
theorem aGC{t e:TypeId}{n:Nat}(hn:n≠0)(ht:Q6 t=false):sA P σ t e n n=(sA P [] t e n n).map λr=>(r.1,σ):=by
 unfold sA;cases P.info? e<;>cases bT P e<;>cases eE P e<;>simp only[yDI]
 split
 .simp only[hn,false_and,yAN,yAK,ht,yAx,yAC]
 .rfl
theorem Q4{t:TypeId}{a b:Operand}(h:Q7 t a b=true):∃q:Option PD,∀(fl:Nat) (fr:List PD) (σ:List aB),cJ P fl fr σ (.makeSlice t a b)=q.map λp=>(p,σ):=by
 unfold Q7 at h;split at h
 .rename_i l _ k;simp only[yAr,yBY,yBq]at h;obtain⟨⟨rfl,hl⟩,ht⟩:=h;have h0:0<=l:=ye;have hn:l.toNat≠0:=ye;cases hu:P.underlying t with
  |none=>exact⟨none,λfl fr σ=>by simp only[cJ,hu];rfl⟩
  |some d=>
   cases d with
   |slice e=>
    refine⟨(sA P [] t e l.toNat l.toNat).map (·.1),λfl fr σ=>?_⟩;have hv:∀k,fK (aX fr (.const (.int k l)))=some l.toNat:=λk=>by
     show(if 0<=l then some l.toNat else none)=_
     rw[yAJ h0]
    simp only[cJ,hu,hv];rw[aGC hn ht,Option.map_map];rfl
   |_=>exact⟨none,λfl fr σ=>by simp only[cJ,hu];rfl⟩
 .cases h
theorem aGD(hl:dM op=true\/kY op=true)(h:cJ P fl fr σ op=some (p,σ')):σ'=σ:=by
 by_cases hc:∃s d x,op=.convert s d x
 .obtain⟨s,d,x,rfl⟩:=hc;simp only[cJ]at h
  repeat' split at h
  all_goals first
   |(simp only[yAb,yAc]at h;exact h.2.symm)
   |(cases h;done)
 cases op<;>simp[dM,kY]at hl hc
 .exact xe
 .exact xe
 .rename_i t x y;obtain⟨q,hq⟩:=Q4 (P:=P) hl;rw[hq]at h;cases q with
  |none=>cases h
  |some q=>simp only[yAC,yAb,yAc]at h;exact h.2.symm
theorem aGE(hl:eW op=true)(h:cJ P fl fr σ op=some (p,σ')):∃id o,j6 fr op=some id/\σ'=σ.set id o:=by
 cases op<;>simp[eW]at hl
 rename_i t x y;simp only[cJ]at h;split at h
 .rename_i a q h1 h2;split at h
  .rename_i s hs;simp only[yAb,yAc]at h;obtain⟨rfl,rfl⟩:=h;unfold pH at hs;split at hs
   .rename_i id off;split at hs
    .exact gm
    .simp at hs
   .rename_i id ver off;exact gm
   .simp at hs
  .exact af
 .exact af
theorem Z4(hs:(dW op||dM op||cE op||kY op||dN op)=true)(hw:dN op=false)(h:fL P call fl free k fr σ op=some (p,σ')):σ'=σ:=by
 unfold fL at h;split at h
 .split at h
  .exact ku
  .exact af
 .rename_i hA;split at h
  .exact ku
  .rename_i hB;have hm:cU op=false:=by simp[dN]at hw;exact hw.2
   rw[hm]at h;simp only[yAX,yAx,yAN]at h;refine aGD ?_ h;simp[hw,yCu]at hs hA hB;rw[hA,hB]at hs;simpa using hs
end
section
variable{P:Program}{call:bY}{fl k0:Nat}{ops:Fc}{ms:List Nat}{frs:Nat->Ey}{σs:Nat->Ex}{ps:Nat->PD}{ft:Nat->Option Nat}{z:Nat->Bool}
def oR(P:Program)(call:bY)(fl:Nat)(ops:Array Oper)(ms:List Nat)(k0:Nat)(frs:Nat->List PD)(σs:Nat->List aB)(ps:Nat->PD)(ft:Nat->Option Nat)(z:Nat->Bool):Prop:=
 ∀(i:Nat) (o:Oper),ops[i]?=some o->H0 P call fl ops ms k0 frs σs ps ft z i o
theorem oR.still(hr:qM ops ms)(ht:oR P call fl ops ms k0 frs σs ps ft z){i:Nat}{o:Oper}(ho:ops[i]?=some o)(hw:dN o.op=false):σs (i+1)=σs i:=by
 cases hwt:Region.wanted o (bM ops (frs i))with
 |true=>exact Z4 (hr.shape i o ho) hw ((ht i o ho).run hwt).1
 |false=>exact((ht i o ho).skip hwt).2
theorem oR.Q1(hr:qM ops ms)(ht:oR P call fl ops ms k0 frs σs ps ft z){i:Nat}:∀(d:Nat),i+d<=ops.size->(∀j o,i<=j->j<i+d->ops[j]?=some o->dN o.op=false)->σs (i+d)=σs i
 |0,_,_=>rfl
 |d+1,hn,h=>by
  have ih:=ht.Q1 hr d ye λj o h1 h2 ho=>h j o h1 ye ho
  have ho:ops[i+d]?=some ops[i+d]:=yCv ye;rw[show i+(d+1)=i+d+1 by omega,ht.still hr ho (h _ _ ye ye ho),ih]
def HY(ops:Array Oper)(ms:List Nat)(ft:Nat->Option Nat)(z:Nat->Bool)(σs:Nat->List aB):Prop:=
 (∀(k i:Nat) (ok oi:Oper),ops[k]?=some ok->ops[i]?=some oi->eW ok.op=true->dM oi.op=true->loose ms i k=true->∀a b,ft i=some a->ft k=some b->a≠b) /\
 ∀(k i:Nat) (ok oi:Oper) (id:Nat),ops[k]?=some ok->ops[i]?=some oi->cU ok.op=true->dM oi.op=true->loose ms i k=true->z k=true->ft i=some id ->
  (σs k).length<=(σs (k+1)).length/\(id<(σs k).length->(σs (k+1))[id]?=(σs k)[id]?)
theorem oR.loose(hr:qM ops ms)(ht:oR P call fl ops ms k0 frs σs ps ft z)(hf:HY ops ms ft z σs){i id:Nat}{oi:Oper}(hi:ops[i]?=some oi)(hl:dM oi.op=true)(hid:ft i=some id)
  {k:Nat} {o:Oper} (ho:ops[k]?=some o) (hk:dN o.op=true->Kz.loose ms i k=true) (hlt:id<(σs k).length):(σs (k+1))[id]?=(σs k)[id]?/\(σs k).length<=(σs (k+1)).length:=by
 cases hw:dN o.op with
 |false=>rw[ht.still hr ho hw];exact⟨rfl,yAk _⟩
 |true=>
  have hloose:=hk hw;cases hwt:Region.wanted o (bM ops (frs k))with
  |false=>rw[((ht k o ho).skip hwt).2];exact⟨rfl,yAk _⟩
  |true=>
   obtain⟨hrun,hfoot⟩:=(ht k o ho).run hwt;simp only[dN,yBp]at hw;rcases hw with hst|hmv
   .obtain⟨_,_,hA,hB,hM⟩:=HS (P:=P) (fr:=frs k) (.inr (.inr hst));unfold fL at hrun;simp only[hA,hB,hM,yAx,yAN,yAX]at hrun;obtain⟨id',o',h1,h2⟩:=aGE hst hrun;have hne:id≠id':=hf.1 k i o oi ho hi hst hl hloose id id' hid (hfoot.trans h1);rw[h2];exact⟨yAd (yBb hne),yg⟩
   .obtain⟨hA,hB,_,_⟩:=aGB hmv;cases hfree:z k with
    |true=>
     obtain⟨q1,q2⟩:=hf.2 k i o oi id ho hi hmv hl hloose hfree hid;exact⟨q2 hlt,q1⟩
    |false=>
    rw[hfree]at hrun;unfold fL at hrun;simp only[hA,hB,hmv,yAx,yAN,yCn,yCo,yAK]at hrun;split at hrun
    .rename_i p σ1 hst;simp only[yAb,yAc]at hrun;rw[<-hrun.2];exact⟨by rw[yAg hlt],yg⟩
    .simp at hrun
theorem oR.Q3(hr:qM ops ms)(ht:oR P call fl ops ms k0 frs σs ps ft z)(hf:HY ops ms ft z σs){i id:Nat}{oi:Oper}(hi:ops[i]?=some oi)(hl:dM oi.op=true)(hid:ft i=some id){m:Nat} :
  ∀(d:Nat),m+d<=ops.size->(∀k o,m<=k->k<m+d->ops[k]?=some o->dN o.op=true->Kz.loose ms i k=true)->id<(σs m).length->(σs (m+d))[id]?=(σs m)[id]?/\(σs m).length<=(σs (m+d)).length
 |0,_,_,_=>⟨rfl,yAk _⟩
 |d+1,hn,h,hlt=>by
  obtain⟨h1,h2⟩:=ht.Q3 hr hf hi hl hid d ye (λk o a b=>h k o a ye) hlt;have ho:ops[m+d]?=some ops[m+d]:=yCv ye;obtain⟨h3,h4⟩:=ht.loose hr hf hi hl hid ho (λhw=>h _ _ ye ye ho hw) ye;exact⟨h3.trans h1,yAW h2 h4⟩
theorem oR.yO(hr:qM ops ms)(ht:oR P call fl ops ms k0 frs σs ps ft z):∀(i:Nat),i<=ops.size->oU ops ps (frs 0) (· < i) (frs i)
 |0,_=>.start λj=>yBv j
 |i+1,h=>by
  have ho:ops[i]?=some ops[i]:=yCv ye;have ih:=ht.yO hr i ye;rw[(ht i _ ho).put];exact(ih.put hr ho).congr λj=>ye
theorem aGo(hr:qM ops ms)(ht:oR P call fl ops ms k0 frs σs ps ft z){S:Nat->Prop}{fr:Ey}(hS:MB ops S)(hsl:oU ops ps (frs 0) S fr){i:Nat}{o:Oper}(ho:ops[i]?=some o)(hni:¬S i)
  (hready:∀e∈o.after,Region.binds .any e=true->S e.on) {x:Nat} (hx:x∈o.looksAt ops):fr[x]?=(frs i)[x]?:=by
 refine hsl.agree hr (ht.yO hr i (yCh (oT ho))) λj oj hoj hd=>?_
 rcases Nat.lt_trichotomy j i with hlt|rfl|hgt
 .obtain⟨e,he,hb,heq⟩:=(hr.looks i o j oj x ho hoj ye hd hx).1 hlt;exact⟨λ_=>hlt,λ_=>heq▸hready e he hb⟩
 .exact⟨λh=>absurd h hni,λh=>absurd h (yCG _)⟩
 .obtain⟨e,he,hb,heq⟩:=(hr.looks i o j oj x ho hoj ye hd hx).2 hgt;exact⟨λh=>absurd (heq▸hS j oj h hoj e he hb) hni,λh=>absurd h ye⟩
theorem aGp{fr fr':Ey}{o:Oper}(h:∀x∈o.looksAt ops,fr[x]?=fr'[x]?):∀x∈o.op.operands,aX fr x=aX fr' x:=by
 intro x hx;cases x with
 |tmp t=>
  have:t∈o.looksAt ops:=List.mem_append_left _ (yDJ.2 ⟨.tmp t,Bc,rfl⟩);simp only[aX,yAA,h t this]
 |_=>rfl
theorem aGq{fr fr':Ey}{o:Oper}(h:∀x∈o.looksAt ops,fr[x]?=fr'[x]?):Region.wanted o (bM ops fr)=Region.wanted o (bM ops fr'):=by
 unfold Region.wanted;cases hg:o.guard with
 |none=>rfl
 |some gb=>
  obtain⟨g,b⟩:=gb;simp only;have:bM ops fr g=bM ops fr' g:=by
   unfold bM;cases hd:(ops[g]?).bind (·.dst)with
   |none=>rfl
   |some d=>
    have hm:d∈o.looksAt ops:=List.mem_append_right _ (by rw[hg];simp[hd]);simp only[h d hm]
  rw[this]
structure Inv (P:Program) (fl:Nat) (ops:Array Oper) (c0:Cx) (fE:List PD) (σs:Nat->List aB) (ps:Nat->PD) (df:List Deferred) (listed:Array Bool) (a:Act) (c:Cx) (fr:List PD) (b:Nat):Prop where
 size:listed.size=ops.size
 closed:MB ops (Lt listed)
 sr:Sr c
 nx:Nx fl c0 c
 σ:c.σ=σs b
 bN:b<=ops.size
 front:∀(j:Nat) (o:Oper),ops[j]?=some o->dN o.op=true->(Lt listed j↔j<b)
 CW:∀(i:Nat) (o:Oper) (t:TypeId),ops[i]?=some o->o.op=.alloc t->¬Lt listed i->¬c.D (c0.σ.length+fX ops.toList i)/\∃z,eE P t=some z/\z.cells.all PD.plain=true/\c.σ[c0.σ.length+fX ops.toList i]?=some (.box (boxed t z))
 yO:oU ops ps fE (Lt listed) fr
 fr:FR c a fr
 df:a.defers=df
theorem MC{listed:Array Bool}{i j:Nat}(hi:i<listed.size):Lt (listed.setIfInBounds i true) j↔Lt listed j\/j=i:=by
 unfold Lt
 by_cases e:i=j
 .subst e;simp[hi]
 .rw[Array.getElem?_setIfInBounds_ne e];exact⟨.inl,λh=>h.elim id (λh=>absurd h.symm e)⟩
theorem Inv.step{c0:Cx}{fE:Ey}{df:List Deferred}{listed:Array Bool}{a:Act}{c:Cx}{fr:Ey}{b:Nat}(hr:qM ops ms)(hi:Inv P fl ops c0 fE σs ps df listed a c fr b){i b':Nat}{o:Oper}(ho:ops[i]?=some o)
  (hready:∀e∈o.after,Region.binds .any e=true->Lt listed e.on) {c':Cx} {v:Value} (hs':Sr c') (nx':Nx fl c0 c') (dK:c'.σ=σs b') (hb':b'<=ops.size)
  (hfront:∀(j:Nat) (o:Oper),ops[j]?=some o->dN o.op=true->((Lt listed j\/j=i)↔j<b'))
  (hholes:∀(j:Nat) (o:Oper) (t:TypeId),ops[j]?=some o->o.op=.alloc t->¬Lt listed j->j≠i->¬c'.D (c0.σ.length+fX ops.toList j)/\∃z,eE P t=some z/\z.cells.all PD.plain=true/\c'.σ[c0.σ.length+fX ops.toList j]?=some (.box (boxed t z)))
  (hf':FR c' a fr) (hv:VR c' v (ps i)):Inv P fl ops c0 fE σs ps df (listed.setIfInBounds i true) (a.put o.dst v) c' (aW fr o.dst (ps i)) b':=by
 have hlt:i<listed.size:=Ec;refine⟨by simpa using hi.size,?_,hs',nx',dK,hb',?_,?_,?_,hf'.put hv _,?_⟩
 .intro j oj hj hoj e he hb;rw[MC hlt]at hj ⊢;rcases hj with hj|rfl
  .exact .inl (hi.closed j oj hj hoj e he hb)
  .rw[ho]at hoj;simp only[yAb]at hoj;subst hoj;exact .inl (hready e he hb)
 .intro j oj hoj hw;rw[MC hlt];exact hfront j oj hoj hw
 .intro j oj t hoj ht hn;rw[MC hlt]at hn;exact hholes j oj t hoj ht (λh=>hn (.inl h)) (λh=>hn (.inr h))
 .exact(hi.yO.put hr ho).congr λj=>(MC hlt).symm
 .rw[<-hi.df];cases o.dst<;>rfl
end
end
section
open Go.RowKit
theorem ZP{P:Program}{σ σ':Ex}{t:TypeId}{a p:PD}(h:oM P σ t a=some p)(he:∀id,gJ a=some id->σ'[id]?=σ[id]?):oM P σ' t a=some p:=by
 unfold oM at h ⊢;cases a<;>simp only at h ⊢<;>first|exact h|(simp at h;done)|skip
 .rename_i id off;rw[he id rfl];exact h
 .rename_i id ver off;rw[he id rfl];exact h
theorem ZQ{P:Program}{σ:Ex}{t:TypeId}{a:PD}{id:Nat}{p:PD}(h:oM P σ t a=some p)(ha:gJ a=some id):id<σ.length:=by
 unfold oM at h;cases a<;>simp only[gJ,reduceCtorEq,yAb]at ha
 .subst ha;simp only at h;exact vu
 .cases h
 .subst ha;simp only at h;exact vu
theorem VR.aGk{c:Cx}{v:Value}{a:PD}{id:Nat}(h:VR c v a)(ha:gJ a=some id):c.D id:=by
 cases a<;>simp only[gJ,reduceCtorEq,yAb]at ha
 .subst ha;obtain⟨_,_,hd,_⟩:=h.sI;exact hd
 .subst ha;obtain⟨_,_,_,hd,_⟩:=h.CV;exact hd
 .subst ha;obtain⟨_,_,hd⟩:=h.FA;exact hd.1
theorem aGl{σ σ':Ex}{a:PD}{xs:Ey}(h:yN σ a=some xs)(he:∀id,gJ a=some id->σ'[id]?=σ[id]?):yN σ' a=some xs:=by
 unfold yN at h ⊢;cases a<;>simp only at h ⊢<;>first|exact h|(simp at h;done)|skip
 rename_i id off n size;rw[he id rfl];exact h
theorem ZR{σ:Ex}{a:PD}{id:Nat}{xs:Ey}(h:yN σ a=some xs)(ha:gJ a=some id):id<σ.length:=by
 unfold yN at h;cases a<;>simp only[gJ,reduceCtorEq,yAb]at ha
 .cases h
 .subst ha;simp only at h;split at h
  .exact vu
  .exact af
 .cases h
theorem QZ{P:Program}{σ:Ex}{s d:TypeId}{a p:PD}(h:AQ P σ s d a=some p):∃xs,yN σ a=some xs:=by
 unfold AQ at h;cases hx:yN σ a with
 |none=>rw[hx]at h;cases h
 |some xs=>exact⟨xs,rfl⟩
theorem ZS{P:Program}{σ σ':Ex}{s d:TypeId}{a p:PD}(h:AQ P σ s d a=some p)(he:∀id,gJ a=some id->σ'[id]?=σ[id]?):AQ P σ' s d a=some p:=by
 obtain⟨xs,hx⟩:=QZ h;unfold AQ at h ⊢;rw[aGl hx he];rw[hx]at h;exact h
section
variable{F:Fence}{P:Program}{call:bY}{fl n:Nat}{Q:Exit->Act->World->Prop}{ops:Fc}{frs:Nat->Ey}{σs:Nat->Ex}{ps:Nat->PD}{ft:Nat->Option Nat}{z:Nat->Bool}
 {c0:Cx} {df:List Deferred}
theorem aGm(hF:Open F P)(hc:Ok F P call)(hr:qM ops (bW ops.toList []))(ht:oR P call fl ops (bW ops.toList []) c0.σ.length frs σs ps ft z)(hfeet:HY ops (bW ops.toList []) ft z σs)
  (hs0:Sr c0) (oS:Xw fl c0) {listed:Array Bool} {a:Act} {c:Cx} {fr:Ey} {b:Nat} (hi:Inv P fl ops c0 (frs 0) σs ps df listed a c fr b) {i:Nat} (hmem:i∈Region.ready .any ops listed) {K:Act->World->Prop}
  (hK:∀a' c' fr' b',Inv P fl ops c0 (frs 0) σs ps df (listed.setIfInBounds i true) a' c' fr' b'->K a' c'.w):wpOpIn F n P ops Q i K a c.w:=by
 obtain⟨hun,o,ho,aGn⟩:=mem_ready.1 hmem;have hlt:i<ops.size:=oT ho;have hni:¬Lt listed i:=by
  intro h;unfold Lt at h;rw[yCW,h]at hun;cases hun
 have hready:∀e∈o.after,Region.binds .any e=true->Lt listed e.on:=λe he hb=>by
  have:=aGn e he hb;rw[yCW]at this;unfold Lt;cases hx:listed[e.on]? with
  |none=>rw[hx]at this;cases this
  |some t=>rw[hx]at this;simp at this;rw[this]
 have agree:=λx hx=>aGo hr ht hi.closed hi.yO ho hni hready (x:=x) hx
 have ev:=aGp agree;have hlen:fr.length=(frs i).length:=hi.yO.len.trans (ht.yO hr i (yCh hlt)).len.symm;have hXc:Xw fl c:=oS.next hs0 hi.nx;have hXm:Xw (max fl c.σ.length) c:=λid g hd hle _ _ _=>absurd (hi.sr.bA id hd) ye
 have frontN:dN o.op=false->∀(j:Nat) (oj:Oper),ops[j]?=some oj->dN oj.op=true->((Lt listed j\/j=i)↔j<b):=λhw j oj hoj hwj=>by
  have hne:j≠i:=by rintro rfl;rw[ho]at hoj;simp only[yAb]at hoj;subst hoj;rw[hw]at hwj;cases hwj
  rw[<-hi.front j oj hoj hwj];simp[hne]
 have wb:dN o.op=true->b<=i:=λhw=>by
  rcases yCe i b with h|h
  .exact absurd ((hi.front i o ho hw).2 h) hni
  .exact h
 have wlow:dN o.op=true->∀(j:Nat) (oj:Oper),ops[j]?=some oj->dN oj.op=true->j<i->Lt listed j:=λhw j oj hoj hwj hji=>
  ZT hr.down hi.closed ho hready (hr.ord i o j oj ho hoj hw hwj hji)
 have frontW:dN o.op=true->∀(j:Nat) (oj:Oper),ops[j]?=some oj->dN oj.op=true->((Lt listed j\/j=i)↔j<i+1):=λhw j oj hoj hwj=>by
  constructor
  .rintro(h|rfl)
   .have:=(hi.front j oj hoj hwj).1 h;have:=wb hw;omega
   .omega
  .intro h;rcases yCe j i with h' | h'
   .exact .inl (wlow hw j oj hoj hwj h')
   .exact .inr ye
 have Q0:dN o.op=true->c.σ=σs i:=λhw=>by
  have hle:=wb hw;rw[hi.σ];have:=ht.Q1 hr (i:=b) (i-b) ye λj oj h1 h2 hoj=>by
   cases hwj:dN oj.op with
   |false=>rfl
   |true=>exact absurd ((hi.front j oj hoj hwj).1 (wlow hw j oj hoj hwj ye)) ye
  rw[show b+(i-b)=i by omega]at this;exact this.symm
 have CW:∀ {dT:Nat} {c':Cx},Nx dT c c'->∀(j:Nat) (oj:Oper) (t:TypeId),ops[j]?=some oj->oj.op=.alloc t->¬Lt listed j->j≠i ->
   ¬c'.D (c0.σ.length+fX ops.toList j)/\∃z,eE P t=some z/\z.cells.all PD.plain=true/\c'.σ[c0.σ.length+fX ops.toList j]?=some (.box (boxed t z)):=λnx j oj t hoj hot hnl _=>by
  obtain⟨hnd,z,h1,h2,h3⟩:=hi.CW j oj t hoj hot hnl;have hl:=(yA.1 h3).1;exact⟨λhd=>(nx.new _ hd).elim hnd (λh=>ye),z,h1,h2,(nx.hole _ hl hnd).trans h3⟩
 unfold wpOpIn;simp only[ho];rw[ZU hi.fr,aGq agree];cases hw:Region.wanted o (bM ops (frs i))with
 |false=>
  obtain⟨hp,dK⟩:=(ht i o ho).skip hw;simp only[yAx,yAN];refine⟨λf _=>hF.fn f,?_⟩;cases hW:dN o.op with
  |false=>exact hK _ c _ b (hi.step hr ho hready hi.sr hi.nx hi.σ hi.bN (frontN hW) (CW (.refl 0 c)) hi.fr (by rw[hp];exact VR.undef c))
  |true=>exact hK _ c _ (i+1) (hi.step hr ho hready hi.sr hi.nx ((Q0 hW).trans dK.symm) hlt (frontW hW) (CW (.refl 0 c)) hi.fr (by rw[hp];exact VR.undef c))
 |true=>
  obtain⟨hrun,hfoot⟩:=(ht i o ho).run hw;simp only[yAK];have gen:∀(dT b':Nat) (σ1:List aB),fl<=dT->Xw dT c->bX P call dT fr c.σ o.op=some (ps i,σ1)->(∀c',Nx dT c c'->c'.σ=σ1->c'.σ=σs b')->b'<=ops.size ->
    (∀(j:Nat) (oj:Oper),ops[j]?=some oj->dN oj.op=true->((Lt listed j\/j=i)↔j<b'))->o.wpIn F n P a c.w K Q:=by
   intro dT b' σ1 hle hX' hst aGr hb' hfront;refine ZV hF hc hi.sr hX' hi.fr hst λv w' hl=>?_
   obtain⟨c',rfl,e,hs',nx,hv,_⟩:=hl;exact hK _ c' _ b' (hi.step hr ho hready hs' (hi.nx.trans (nx.weaken hle)) (aGr c' nx e) hb' hfront (CW nx) (hi.fr.mono nx) hv)
  unfold fL at hrun
  by_cases hA:dW o.op=true
  .obtain⟨hpc,_,hW,_⟩:=ZD (fr:=fr) hA;rw[yAJ hA]at hrun;split at hrun
   .rename_i p hp;simp only[yAb,yAc]at hrun;obtain⟨rfl,_⟩:=hrun;refine gen fl b c.σ (yAk _) hXc ?_ (λc' _ e=>e.trans hi.σ) hi.bN (frontN hW);unfold bX pop;rw[hpc,ZW _ ev,hp]
   .simp at hrun
  .simp only[yCu]at hA;rw[hA]at hrun;simp only[yAx,yAN]at hrun
   by_cases hB:cE o.op=true
   .obtain⟨_,hW,_,t,hop⟩:=aGs hB;rw[yAJ hB]at hrun;simp only[yAb,yAc]at hrun;obtain⟨hp,_⟩:=hrun;obtain⟨hnd,z,hz,hpl,hbox⟩:=hi.CW i o t ho hop hni;obtain⟨zv,inf,hinf,hzv,hzr⟩:=CX (c:=c) hz;have lP:=(Q2 (P:=P) (fl:=fl) hi.sr (L7 hz hinf hzv t) (aS.wW hzr.cells hpl) t (λt' ds e=>L8 hzr e)).1;have hrun:(execOp a.eval o).run P c.w=.ok (.value (.pointer (some ⟨c.w.heap.size,0,none⟩))) (c.w.alloc (.cells zv.cells t)):=by
     obtain⟨dst,op,ty,pos,after,guard⟩:=o;simp only at hop;subst hop;simp[execOp,Instr.alloc,zeroValue,typeInfo,hinf,hzv,lP]
    refine⟨λf _=>hF.fn f,?_⟩;rw[Oper.semAt_eq _ _ _ (by rw[hop];intro d e;cases e),hrun];have hg:c.w.grownBy (c.w.alloc (.cells zv.cells t)) none:=wV _ _;have gR:∀b',aY (.pointer (some ⟨c.w.heap.size,0,none⟩))=some b'->c.w.heap.size<=b':=λb' hb=>Cy
    have hnv:Nv c (c.mX (c.w.alloc (.cells zv.cells t)) (c0.σ.length+fX ops.toList i) (.pointer (some ⟨c.w.heap.size,0,none⟩))):=Nv.mX hnd hbox hg gR;refine hK _ (c.mX (c.w.alloc (.cells zv.cells t)) (c0.σ.length+fX ops.toList i) (.pointer (some ⟨c.w.heap.size,0,none⟩))) _ b
     (hi.step hr ho hready (hi.sr.mX hnd hbox hg (yAk _) (yBW _ _) (L7 hz hinf hzv t) ⟨aS.wW hzr.cells hpl,λt' ds e=>L8 hzr e⟩) (hi.nx.mX hnd hbox hg gR ye) hi.σ hi.bN (frontN hW) ?_ ⟨aS.mY hnv hi.fr.1,(hi.sr.mX hnd hbox hg (yAk _) (yBW _ _) (L7 hz hinf hzv t) ⟨aS.wW hzr.cells hpl,λt' ds e=>L8 hzr e⟩).jA⟩ ?_)
    .intro j oj t' hoj hot hnl hne;obtain⟨aGt,z',h1,h2,h3⟩:=hi.CW j oj t' hoj hot hnl;refine⟨λhd=>?_,z',h1,h2,h3⟩;rcases hd with hd|hd
     .exact aGt hd
     .exact aGu (l:=ops.toList) (by simpa using hoj) Bd (by rw[hot];rfl) hB hne ye
    .rw[<-hp];exact .ptr _ _ _ (.inr rfl) ⟨_,hbox⟩ AR
   .simp only[yCu]at hB;rw[hB]at hrun;simp only[yAx,yAN]at hrun
    by_cases hM:cU o.op=true
    .have hW:dN o.op=true:=by simp[dN,hM]
     have dK:=Q0 hW;rw[hM]at hrun;cases hfree:z i with
     |true=>
      rw[hfree]at hrun;simp only[yBR,Bool.and_false,yAx,yAN,yAK]at hrun;refine gen fl (i+1) (σs (i+1)) (yAk _) hXc ?_ (λc' _ e=>e) hlt (frontW hW);rw[ZX hlen _ ev,dK];exact hrun
     |false=>
      rw[hfree]at hrun;simp only[yCn,yCo,yAK]at hrun;split at hrun
      .rename_i p σ1 hst;simp only[yAb,yAc]at hrun;obtain⟨rfl,aGv⟩:=hrun;refine gen (max fl c.σ.length) (i+1) σ1 ye hXm ?_ (λc' nx e=>?_) hlt (frontW hW)
       .rw[ZX hlen _ ev,dK];exact hst
       .rw[<-aGv,<-e,<-dK];refine yCp λid=>?_
        rcases yCe id c.σ.length with h|h
        .rw[yAg h];exact nx.ro id ye h
        .rw[yBz h,yBl]
         congr 1;omega
      .simp at hrun
    .simp only[yCu]at hM;rw[hM]at hrun;simp only[yAX,yAx,yAN]at hrun;have hsh:=hr.shape i o ho;simp only[hA,hB,dN,hM,yCf,yDH,yBp]at hsh
     by_cases hst:eW o.op=true
     .have hW:dN o.op=true:=by simp[dN,hst]
      obtain⟨gR,HZ,_⟩:=HS (P:=P) (fr:=fr) (.inr (.inr hst));refine gen fl (i+1) (σs (i+1)) (yAk _) hXc ?_ (λc' _ e=>e) hlt (frontW hW);unfold bX pop;rw[HZ,gR];simp only;rw[L9 hlen _ ev,Q0 hW];exact hrun
     .have hW:dN o.op=false:=by simp[dN,hM,hst]
      by_cases hL:dM o.op=true
      .obtain⟨gR,HZ,_⟩:=HS (P:=P) (fr:=fr) (.inl hL);refine gen fl b c.σ (yAk _) hXc ?_ (λc' _ e=>e.trans hi.σ) hi.bN (frontN hW);unfold bX pop;rw[HZ,gR];simp only;rw[L9 hlen _ ev];obtain⟨dst,op,ty,pos,after,guard⟩:=o;have ZY:∀x ad,op.operands=#[x]->aX (frs i) x=some ad->(j6 (frs i) op=gJ ad)->(∀id,gJ ad=some id->id<(σs i).length)->∀id,gJ ad=some id->c.σ[id]?=(σs i)[id]?:=by
        intro x ad hopx had hfe hltA id hida;have hfid:ft i=some id:=by rw[hfoot,hfe,hida]
        rcases yCe i b with hib|hbi
        .have h1:=(ht.Q3 hr hfeet ho hL hfid (m:=i) (b-i) (by have:=hi.bN;omega) (λk ok h1 h2 hok hwk=>by
          have hk:Lt listed k:=(hi.front k ok hok hwk).2 ye;unfold loose;simp only[yAr,yBq,];refine⟨?_,?_⟩
          .cases hx:((bW ops.toList []).getD i 0).testBit k with
           |false=>rfl
           |true=>exact absurd (ZZ hr.down i k hx) ye
          .cases hx:((bW ops.toList []).getD k 0).testBit i with
           |false=>rfl
           |true=>exact absurd (Z0 hr.down hi.closed k i hk hx) hni) (hltA id hida)).1
         rw[show i+(b-i)=b by omega]at h1;rw[hi.σ];exact h1
        .have hd:id<(σs b).length:=by
          have hev:aX fr x=some ad:=by
           rw[ev x (by rw[hopx];simp)];exact had
          have hd:=(dO hi.fr hev).aGk hida;rw[<-hi.σ];exact hi.sr.bA id hd
         have h1:=(ht.Q3 hr hfeet ho hL hfid (m:=b) (i-b) ye (λk ok h1 h2 hok hwk=>by
          have hk:¬Lt listed k:=λhk=>absurd ((hi.front k ok hok hwk).1 hk) ye
          unfold loose;simp only[yAr,yBq,];refine⟨?_,?_⟩
          .cases hx:((bW ops.toList []).getD i 0).testBit k with
           |false=>rfl
           |true=>exact absurd (ZT hr.down hi.closed ho hready hx) hk
          .cases hx:((bW ops.toList []).getD k 0).testBit i with
           |false=>rfl
           |true=>exact absurd (ZZ hr.down k i hx) ye) hd).1
         rw[show b+(i-b)=i by omega]at h1;rw[hi.σ];exact h1.symm
       by_cases hcv:∃s d x,op=.convert s d x
       .obtain⟨s,d,x,rfl⟩:=hcv;simp only[cJ]at hrun ⊢;split at hrun
        .rename_i htc;rw[yAJ htc];split at hrun
         .rename_i ad had;split at hrun
          .exact ue
          .split at hrun
           .rename_i p hp;obtain⟨xs,hxs⟩:=QZ hp;rw[ZS hp (ZY x ad rfl had (by simp only[j6,had]) (λid=>ZR hxs))];exact ue
           .cases hrun
         .cases hrun
        .cases hrun
       obtain⟨t,x,rfl⟩:∃t x,op=.load t x:=by cases op<;>simp[dM]at hL hcv ⊢
       simp only[cJ]at hrun ⊢;split at hrun
       .rename_i ad had;split at hrun
        .rename_i p hp;simp only[yAb,yAc]at hrun;obtain⟨rfl,_⟩:=hrun;have hkeep:∀id,gJ ad=some id->c.σ[id]?=(σs i)[id]?:=ZY x ad rfl had (by simp only[j6,had]) (λid=>ZQ hp);rw[ZP hp hkeep]
        .simp at hrun
       .simp at hrun
      .have hS:kY o.op=true:=by simpa [hL,hst]using hsh
       obtain⟨gR,HZ,_⟩:=HS (P:=P) (fr:=fr) (.inr (.inl hS));refine gen fl b c.σ (yAk _) hXc ?_ (λc' _ e=>e.trans hi.σ) hi.bN (frontN hW);unfold bX pop;rw[HZ,gR];simp only;rw[L9 hlen _ ev];obtain⟨dst,op,ty,pos,after,guard⟩:=o
       by_cases hmk:∃t x y,op=.makeSlice t x y
       .obtain⟨t,x,y,rfl⟩:=hmk;obtain⟨q,hq⟩:=Q4 (P:=P) hS;simp only[hq]at hrun ⊢;cases q with
        |none=>cases hrun
        |some q=>
         simp only[yAC,yAb,yAc]at hrun ⊢;exact⟨hrun.1,trivial⟩
       obtain⟨t,ln,parts,rfl⟩:∃t ln parts,op=.buildSlice t ln parts:=by cases op<;>simp[kY]at hS hmk ⊢
       simp only[cJ]at hrun ⊢;split at hrun
       .rename_i qs hqs;split at hrun
        .rename_i p hp;simp only[yAb,yAc]at hrun;obtain⟨rfl,_⟩:=hrun;rfl
        .simp at hrun
       .simp at hrun
theorem aGw(hr:qM ops (bW ops.toList []))(ht:oR P call fl ops (bW ops.toList []) c0.σ.length frs σs ps ft z){listed:Array Bool}{a:Act}{c:Cx}{fr:Ey}{b:Nat}(hi:Inv P fl ops c0 (frs 0) σs ps df listed a c fr b)
  (hnil:Region.ready .any ops listed=[]):c.σ=σs ops.size/\fr=frs ops.size:=by
 have hall:∀i,i<ops.size->Lt listed i:=by
  intro i
  induction i using Nat.strongRecOn with
  |_ i ih=>
   intro hlt;have ho:ops[i]?=some ops[i]:=yCv hlt;have hls:i<listed.size:=by rw[hi.size];exact hlt
   cases hb:listed[i]with
   |true=>unfold Lt;rw[yCv hls,hb]
   |false=>
    have:i∈Region.ready .any ops listed:=mem_ready.2 ⟨by rw[yCW,yCv hls,hb];rfl,_,ho,λe he hbd=>by
     have hd:=hr.down i _ ho e he hbd;have:=ih e.on hd ye;unfold Lt at this;rw[yCW,this];rfl⟩
    rw[hnil]at this;cases this
 constructor
 .rw[hi.σ];have:=ht.Q1 hr (i:=b) (ops.size-b) (by have:=hi.bN;omega) λj oj h1 h2 hoj=>by
   cases hwj:dN oj.op with
   |false=>rfl
   |true=>exact absurd ((hi.front j oj hoj hwj).1 (hall j (oT hoj))) ye
  rw[show b+(ops.size-b)=ops.size by have:=hi.bN;omega]at this;exact this.symm
 .exact hi.yO.same hr (ht.yO hr ops.size (yAk _)) λj o hoj=>⟨λ_=>oT hoj,λh=>hall j h⟩
theorem aGx(hF:Open F P)(hc:Ok F P call)(hr:qM ops (bW ops.toList []))(ht:oR P call fl ops (bW ops.toList []) c0.σ.length frs σs ps ft z)(hfeet:HY ops (bW ops.toList []) ft z σs)
  (hs0:Sr c0) (oS:Xw fl c0) (hQ:∀c' a',c'.σ=σs ops.size->Sr c'->Nx fl c0 c'->FR c' a' (frs ops.size)->a'.defers=df->Q .normal a' c'.w) :
  ∀(fuel:Nat) (listed:Array Bool) (a:Act) (c:Cx) (fr:List PD) (b:Nat),Inv P fl ops c0 (frs 0) σs ps df listed a c fr b->listed.toList.countP (·==false)<=fuel->wpAnyIn F n P .any ops Q fuel listed a c.w:=by
 have done:∀(listed:Array Bool) (a:Act) (c:Cx) (fr:List PD) (b:Nat),Inv P fl ops c0 (frs 0) σs ps df listed a c fr b->Region.ready .any ops listed=[]->Q .normal a c.w:=by
  intro listed a c fr b hi hnil;obtain⟨e1,e2⟩:=aGw hr ht hi hnil;exact hQ c a e1 hi.sr hi.nx (e2▸hi.fr) hi.df
 intro fuel
 induction fuel with
 |zero=>
  intro listed a c fr b hi hn;have h0:∀x∈listed.toList,¬(x==false)=true:=List.countP_eq_zero.1 (Nat.le_zero.1 hn);have hnil:Region.ready .any ops listed=[]:=by
   apply List.eq_nil_iff_forall_not_mem.2;intro i hm;obtain⟨hun,o,ho,_⟩:=mem_ready.1 hm;have hls:i<listed.size:=Ec;rw[yCW,yCv hls]at hun;exact h0 _ (yCc.2 (Array.getElem_mem hls)) (by simpa using hun)
  exact⟨hnil,done listed a c fr b hi hnil⟩
 |succ fuel ih=>
  intro listed a c fr b hi hn;refine⟨done listed a c fr b hi,λi hm=>aGm hF hc hr ht hfeet hs0 oS hi hm λa' c' fr' b' hi'=>ih _ a' c' fr' b' hi' ?_⟩;obtain⟨hun,o,ho,_⟩:=mem_ready.1 hm;have hls:i<listed.size:=Ec;have hli:i<listed.toList.length:=by simpa using hls
  rw[yCW,yCv hls]at hun;simp only[yDk]at hun;rw[yE,List.countP_set hli];have hpos:0<listed.toList.countP (·==false):=List.countP_pos_iff.2 ⟨listed[i],yCc.2 (Array.getElem_mem hls),by simp[hun]⟩;have e:listed.toList[i]=false:=by simpa using hun
  rw[e];simp only[beq_self_eq_true,yAK,show(true==false)=false from rfl,yAx,yAN];omega
theorem Z1(hF:Open F P)(hc:Ok F P call){a:Act}{fr fr':Ey}{σ' hst:Ex}(hs:Sr c0)(hX:Xw fl c0)(hf:FR c0 a fr)(hr:qM ops (bW ops.toList []))(hho:lA P ops.toList=some hst)
  {frs:Nat->Ey} {σs:Nat->Ex} {ps:Nat->PD} {ft:Nat->Option Nat} {z:Nat->Bool} (e1:frs 0=fr) (e2:σs 0=c0.σ++hst) (e3:frs ops.size=fr') (e4:σs ops.size=σ')
  (ht:oR P call fl ops (bW ops.toList []) c0.σ.length frs σs ps ft z) (hfeet:HY ops (bW ops.toList []) ft z σs)
  (hQ:∀c' a',c'.σ=σ'->Sr c'->Nx fl c0 c'->FR c' a' fr'->a'.defers=a.defers->Q .normal a' c'.w):wpAnyIn F n P .any ops Q ops.size (Array.replicate ops.size false) a c0.w:=by
 have hs':=hs.ahead hst;refine aGx (df:=a.defers) hF hc hr ht hfeet hs hX (λc' a' h1 h2 h3 h4 h5=>hQ c' a' (h1.trans e4) h2 h3 (e3▸h4) h5) ops.size _ a (c0.ahead hst) fr 0 ?_ ?_
 .refine⟨yg,?_,hs',Nx.ahead hs hst,e2.symm,yAF _,?_,?_,?_,FR.mono (Nx.ahead (fl:=0) hs hst) hf,rfl⟩
  .intro i o hi;unfold Lt at hi;rw[yEa]at hi;split at hi<;>simp at hi
  .intro j o _ _;unfold Lt;rw[yEa];split<;>simp
  .intro i o t ho hot _;obtain⟨z,h1,h2,h3⟩:=Q5 hho i o t Bd hot;refine⟨λhd=>absurd (hs.bA _ hd) ye,z,h1,h2,?_⟩;show(c0.σ++hst)[_]?=_
   rw[yBz ye,show c0.σ.length+fX ops.toList i-c0.σ.length=fX ops.toList i by omega];exact h3
  .rw[<-e1];refine .start λj hj=>?_
   unfold Lt at hj;rw[yEa]at hj;split at hj<;>simp at hj
 .exact yAW List.countP_le_length yg
theorem Z2{tr:List TE}{ft:Nat->Option Nat}(hfo:oP ops.toList (bW ops.toList []) tr=true)(hft:∀j,0<=j->j<ops.size->ft j=(tr[j-0]?).bind TE.iJ) :
  ∀(k i:Nat) (ok oi:Oper),ops[k]?=some ok->ops[i]?=some oi->eW ok.op=true->dM oi.op=true->loose (bW ops.toList []) i k=true->∀a b,ft i=some a->ft k=some b->a≠b:=by
 intro k i ok oi FB hoi hsk hli hloose x y hx hy;simp only[oP,yAn,yAU]at hfo;have h1:=hfo k (by simpa using oT FB);rw[MA FB,hsk]at h1;simp only[yBR,yCf,yAn,yAU]at h1;have h2:=h1 i (by simpa using oT hoi);rw[MA hoi,hli,hloose]at h2;have hxi:=hft i (yAF _) (oT hoi);have hyk:=hft k (yAF _) (oT FB);simp only[yDn]at hxi hyk;rw[<-hxi,<-hyk,hx,hy]at h2;simpa using h2
theorem aGf(hF:Open F P)(hc:Ok F P call){a:Act}{fr fr':Ey}{σ':Ex}(hs:Sr c0)(hX:Xw fl c0)(hf:FR c0 a fr)(h:lB P call fl ops fr c0.σ=some (fr',σ'))
  (hQ:∀c' a',c'.σ=σ'->Sr c'->Nx fl c0 c'->FR c' a' fr'->a'.defers=a.defers->Q .normal a' c'.w):wpAnyIn F n P .any ops Q ops.size (Array.replicate ops.size false) a c0.w:=by
 unfold lB at h;split at h
 .rename_i x h;simp only[yAb]at h;subst h;rename_i h;unfold mU at h;simp only at h;split at h
  .rename_i hok;have hr:=AM hok;split at h
   .rename_i hst hho;split at h
    .rename_i tr aQ σ1 hops;split at h
     .rename_i hfo;simp only[yAb,yAc]at h;obtain⟨rfl,rfl⟩:=h;obtain⟨frs,σs,ps,ft,e1,e2,e3,e4,htr,hft⟩:=aGy (k0:=c0.σ.length) ops.toList 0 _ _ _ _ _ _ yg (by simp[fX]) hops;simp only[yAp,yBi]at e3 e4 hft;have ht:oR P call fl ops (bW ops.toList []) c0.σ.length frs σs ps ft (λi=>jC ops.toList (bW ops.toList []) i):=λi o ho=>htr i o (yAF _) ho
      refine Z1 hF hc hs hX hf hr hho e1 e2 e3 e4 ht ⟨Z2 hfo hft,?_⟩ hQ;intro k i ok oi id FB hoi hmk hli hlo hz _;simp only[jC,yAn,yAU]at hz;have:=hz i (by simpa using oT hoi);rw[MA hoi,hli,hlo]at this;simp at this
     .exact af
    .exact af
   .exact af
  .exact af
 .split at h
  .rename_i hok;have hr:=AM hok;split at h
   .rename_i hst hho;split at h
    .rename_i tr aQ σ1 hops;split at h
     .rename_i hfo;obtain⟨hfo,hkp⟩:=hfo;simp only[yAb,yAc]at h;obtain⟨rfl,rfl⟩:=h;obtain⟨frs,σs,ps,ft,e1,e2,e3,e4,htr,hft,Z3⟩:=aGz (k0:=c0.σ.length) (ms:=bW ops.toList []) ops.toList 0 _ _ _ _ _ _ yg (by simp[fX]) hops;simp only[yAp,yBi]at e3 e4 hft;have ht:oR P call fl ops (bW ops.toList []) c0.σ.length frs σs ps ft (λ_=>true):=λi o ho=>htr i o (yAF _) ho
      refine Z1 hF hc hs hX hf hr hho e1 e2 e3 e4 ht ⟨Z2 hfo hft,?_⟩ hQ;intro k i ok oi id FB hoi hmk hli hlo _ hid;have aGA:(tr[i]?).bind TE.iJ=some id:=by
       have:=hft i (yAF _) (oT hoi);rw[yDn]at this;rw[<-this,hid]
      have:=hkp k i id ok oi (by simpa using FB) (by simpa using hoi) hmk hli hlo aGA;have h1:=Z3 k (yAF _);have h2:=Z3 (k+1) (yAF _);simp only[yDn]at h1 h2;rw[h1,h2];exact this
     .exact af
    .exact af
   .exact af
  .exact af
end
end
section
open Go.RowKit
section
variable{F:Fence}{n:Nat}{P:Program}{Q:Exit->Act->World->Prop}{a:Act}{w:World}
def yM(F:Fence)(n:Nat)(P:Program)(c:Code)(Q:Exit->Act->World->Prop)(a:Act)(w:World):Prop:=
 ∀(b:Frame) (k:List Item) (cs:List Frame),b.roundOf=F.round->F.fn b.fn->F.room (cs.length+1+n) ->
  ∃e a' w',Q e a' w'/\ArrivesIn (Machine.fenced P F) P (lone (b.atR a (.code c::.inLoop c::k)) cs w) b k cs e a' w'
theorem yM.wpIn{c:Code}(h:yM F n P c Q a w):(Code.loop c).wpIn F n P Q a w:=λb k cs hro hb hr=>
 let ⟨e,a',w',q,r⟩:=h b k cs hro hb hr;⟨e,a',w',q,.of_steps (.one (fenced_calm hb hr rfl) stepR_loop) r⟩
theorem yM.round{c:Code}(h:c.wpIn F n P (Exit.then (yM F n P c Q) Q) a w):yM F n P c Q a w:=by
 intro b k cs hro hb hr;obtain⟨e,a₁,w₁,hq,harr⟩:=h b (.inLoop c::k) cs hro hb hr;cases e with
 |normal=>
  obtain⟨e₂,a₂,w₂,hq₂,harr₂⟩:=hq b k cs hro hb hr;exact⟨e₂,a₂,w₂,hq₂,.of_steps (StepsIn.trans harr (.one (fenced_calm hb hr rfl) stepR_inLoop)) harr₂⟩
 |exit id=>exact⟨_,a₁,w₁,hq,.pass (x:=.inLoop c) rfl (λ_ _=>.inl yg) harr⟩
 |goto l=>exact⟨_,a₁,w₁,hq,.pass (x:=.inLoop c) rfl (λ_ _=>.inl yg) harr⟩
 |ret=>exact⟨_,a₁,w₁,hq,.pass (x:=.inLoop c) rfl (λ_ _=>.inl yg) harr⟩
 |panic ch=>exact⟨_,a₁,w₁,hq,.pass (x:=.inLoop c) rfl (λ_ _=>.inl yg) harr⟩
 |outgrown=>exact⟨_,a₁,w₁,hq,.pass (x:=.inLoop c) rfl (λ_ _=>.inl yg) harr⟩
def pK(F:Fence)(n:Nat)(P:Program)(c:Code)(Q:Exit->Act->World->Prop)(a:Act)(w:World):Prop:=
 match c with
 |.loop b=>yM F n P b Q a w
 |c=>c.wpIn F n P Q a w
theorem pK.wpIn{c:Code}(h:pK F n P c Q a w):c.wpIn F n P Q a w:=by
 unfold pK at h;split at h
 .exact yM.wpIn h
 .exact h
end
def MR(c:Cx):List Deferred->List Nat->Prop
 | [],[]=>True
 |d::ds,m::ms=>(∃b,d.target=.collected b/\c.D m/\kL c.σ[m]?/\c.ρ m=.pointer (some ⟨b,0,none⟩))/\MR c ds ms
 |_,_=>False
theorem MR.mono{fl:Nat}{c c':Cx}(nx:Nx fl c c'):∀ {ds:List Deferred} {ms:List Nat},MR c ds ms->MR c' ds ms
 | [],[],_=>trivial
 |d::ds,m::ms,h=>by
  obtain⟨⟨b,h1,h2,h3,h4⟩,h5⟩:=h;obtain⟨e,k⟩:=nx.mG m h2 h3;exact⟨⟨b,h1,nx.bA m h2,k,e.trans h4⟩,MR.mono nx h5⟩
 | [],_::_,h=>h.elim
 |_::_,[],h=>h.elim
def AO(F:Fence)(c:Cx):Option Nat->Prop
 |none=>F.round=none
 |some id=>∃l,F.round=some l/\c.D id/\kL c.σ[id]?/\c.ρ id=.pointer (some ⟨l,0,none⟩)
theorem AO.mono{fl:Nat}{F:Fence}{c c':Cx}(nx:Nx fl c c'){rd:Option Nat}(h:AO F c rd):AO F c' rd:=by
 cases rd with
 |none=>exact h
 |some id=>
  obtain⟨l,h1,h2,h3,h4⟩:=h;obtain⟨e,k⟩:=nx.mG id h2 h3;exact⟨l,h1,nx.bA id h2,k,e.trans h4⟩
def QU(P:Program)(code:sH):Prop:=
 ∀ {F:Fence} {rd:Option Nat} {c:Code} {fl:Nat} {fr:Ey} {ms:List Nat} {cx:Cx} {r:PO} {a:Act},Open F P->code rd c fl fr ms cx.σ=some r->Sr cx->Xw fl cx->FR cx a fr->MR cx a.defers ms->AO F cx rd ->
   ∀(m:Nat) (Q:Exit->Act->World->Prop),(∀kM a',kM.σ=r.σ->Sr kM->Nx fl cx kM->FR kM a' r.fr->MR kM a'.defers r.ms->Q r.x.HT a' kM.w)->pK F m P c Q a cx.w
section
variable{P:Program}{c:Cx}{fl:Nat}
theorem aGj(hs:Sr c){a:Act}{fr:Ey}(hf:FR c a fr){rv:ResultVar}{p:PD}(h:AK P fr c.σ rv=some p) :
  ∃v,((match rv with|.tmp t=>pure (a.tmps.getD t undef)|.cell x t=>do loadVar t (<-asAddr (a.tmps.getD x undef)):Sem Value)).run P c.w=.ok v c.w/\VR c v p:=by
 cases rv with
 |tmp t=>
  simp only[AK,yAb]at h;subst h;exact⟨_,rfl,hf.tmp t⟩
 |cell x t=>
  simp only[AK]at h;split at h
  .rename_i id off hid;have hv:=hf.tmp x;rw[hid]at hv;obtain⟨v,r,q⟩:=ZN (P:=P) hs h hv;obtain⟨b,e,_⟩:=hv.sI;refine⟨v,?_,q⟩;rw[e]at r;simp only[e,asAddr];simpa [Instr.loadAt,Instr.sureAddr]using r
  .exact af
theorem ZO(hs:Sr c){a:Act}{fr:Ey}(hf:FR c a fr){f:ResultVar->Sem Value}(hfn:∀(rv:ResultVar) (p:PD),AK P fr c.σ rv=some p->∃v,(f rv).run P c.w=.ok v c.w/\VR c v p):∀ {l:List ResultVar} {qs:Ey},wS P fr c.σ l=some qs ->
  ∃vs:List Value,(l.mapM f).run P c.w=.ok vs c.w/\aS c vs qs
 | [],qs,h=>by
   simp only[wS,yAb]at h;subst h;exact⟨[],by simp[List.mapM_nil],rfl,yg⟩
 |rv::l,qs,h=>by
  simp only[wS]at h;split at h
  .rename_i p ps h1 h2;simp only[yAb]at h;subst h;obtain⟨v,r,hv⟩:=hfn rv p h1;obtain⟨vs,rs,hvs⟩:=ZO hs hf hfn h2;refine⟨v::vs,by simp[List.mapM_cons,yBa,r,rs,Result.andThen],by simpa using hvs.1,λi u d hu hd=>?_⟩;cases i with
   |zero=>simp at hu hd;subst hu hd;exact hv
   |succ i=>exact hvs.2 i u d Dm Dk
  .exact af
theorem aGi(hs:Sr c){a:Act}{fr:Ey}(hf:FR c a fr){fn:Func}{qs:Ey}(h:wS P fr c.σ fn.results.toList=some qs):∃v,(results fn a.tmps).run P c.w=.ok v c.w/\VR c v (CO qs):=by
 obtain⟨vs,r,hv⟩:=ZO hs hf (λrv p=>aGj hs hf) h;unfold results;rw[Array.mapM_eq_mapM_toList];rw[map_eq_pure_bind];simp only[yBa]
 generalize hg:Sem.run P (List.mapM _ fn.results.toList) c.w=res
 have e:res=.ok vs c.w:=hg.symm.trans r;subst e;simp only[Result.andThen,yBk];have hl:=hv.1
 by_cases h1:vs.length=1
 .obtain⟨v,rfl⟩:∃v,vs=[v]:=by
   match vs,h1 with
   | [v],_=>exact⟨v,rfl⟩
  obtain⟨p,rfl⟩:∃p,qs=[p]:=by
   match qs,hl with
   | [p],_=>exact⟨p,rfl⟩
  exact⟨v,yg,hv.2 0 v p rfl rfl⟩
 .have e:CO qs=.aP qs:=by
   match qs,hl with
   | [],_=>rfl
   | [p],hl=>exact absurd hl h1
   |_::_::_,_=>rfl
  rw[e];refine⟨.tuple vs.toArray,?_,.aP vs qs hv.1 hv.2⟩;rw[dif_neg Ao]
end
end
section
open Go.RowKit
section
variable{P:Program}{fl:Nat}
theorem ZH{b b':Nat}(h:Value.pointer (some ⟨b,0,none⟩)=Value.pointer (some ⟨b',0,none⟩)):b=b':=zx
theorem ZI{F:Fence}{n:Nat}{fn:Func}{tmps:Fb}{R:Ending->World->Prop}:∀(ms:List Nat) (ds:List Deferred) (c:Cx) (σ':List aB),tX fl ms c.σ=some σ'->Sr c->MR c ds ms ->
  (∀c',c'.σ=σ'->Sr c'->Nx fl c c'->LeavesInM F n P fn tmps R [] .returning c'.w)->LeavesInM F n P fn tmps R ds .returning c.w
 | [],[],c,σ',h,hs,_,hR=>by
   simp only[tX,yAb]at h;exact hR c h hs (.refl _ _)
 |m::ms,d::ds,c,σ',h,hs,hm,hR=>by
  obtain⟨⟨b,h1,h2,h3,h4⟩,h5⟩:=hm;simp only[tX]at h;split at h
  .rename_i hfl;split at h
   .rename_i hmk;obtain⟨b',e1,e2⟩:=hs.mark m h2 hmk;have e:=ZH (h4.symm.trans e1);subst e;have nx:Nx fl c (c.put (c.w.putObj b (.deferred none)) m (c.ρ m) .none):=Nx.tZ hs h2 hmk trivial trivial (by rw[h4];rfl) hfl e2 yg;have hs':Sr (c.put (c.w.putObj b (.deferred none)) m (c.ρ m) .none):=Sr.tZ hs h2 hmk trivial trivial (by rw[h4];rfl) e2 yg trivial;refine⟨yg,.inl ⟨b,c.w.putObj b (.deferred none),h1,run_takeDeferred e2,?_⟩⟩;exact ZI ms ds _ σ' h hs' (h5.mono nx) (λc' q1 q2 q3=>hR c' q1 q2 (nx.trans q3))
   .exact af
  .exact af
 | [],_::_,_,_,_,_,hm,_=>hm.elim
 |_::_,[],_,_,_,_,hm,_=>hm.elim
theorem Leaves.of{c c':Cx}{p:PD}{v:Value}(hs:Sr c')(nx:Nx fl c c')(hv:VR c' v p):Leaves fl c p c'.σ v c'.w:=
 ⟨c',rfl,rfl,hs,nx,hv,λid hd=>(nx.new id hd).imp (λh=>h) (λh=>⟨h,hs.bA id hd⟩)⟩
theorem ZJ{c:Cx}:∀(ts:List Tmp) (vs:List Value) (ps:List PD) (a:List Value) (fr:List PD),aS c vs ps->aS c a fr->ts.length=vs.length->aS c ((ts.zip vs).foldl (λtmps x=>tmps.set x.1 x.2) a) (tQ fr ts ps)
 | [],_,_,a,fr,_,h,_=>by simpa [tQ]using h
 |t::ts,[],_,_,_,_,_,hl=>by simp at hl
 |t::ts,v::vs,[],_,_,hv,_,_=>by have:=hv.1;simp at this
 |t::ts,v::vs,p::ps,a,fr,hv,h,hl=>by
  simp only[List.zip_cons_cons,yDm,tQ];refine ZJ ts vs ps _ _ ⟨by simpa using hv.1,λi u d hu hd=>hv.2 (i+1) u d Dm Dk⟩ ⟨by simpa using h.1,λi u d hu hd=>?_⟩ Bb;rw[yCV]at hu hd
  by_cases e:t=i
  .subst e;simp only[yAK]at hu hd;split at hu
   .split at hd
    .simp only[yAb]at hu hd;subst hu hd;exact hv.2 0 _ _ rfl rfl
    .simp at hd
   .simp at hu
  .rw[yAI e]at hu hd;exact h.2 i u d hu hd
theorem ZK:∀(l:List (Tmp×Value)) (a:Array Value),(l.foldl (λtmps x=>tmps.setIfInBounds x.1 x.2) a).toList=l.foldl (λtmps x=>tmps.set x.1 x.2) a.toList
 | [],a=>rfl
 |x::l,a=>by simp only[yDm];rw[ZK l];simp
theorem CS{c:Cx}(hs:Sr c){id l:Nat}{st:EZ}{fr:Ey}{ps:List Tmp}{asg bd:Code}(hd:c.D id)(ho:c.σ[id]?=some (.loop st fr ps asg bd))(hr:c.ρ id=.pointer (some ⟨l,0,none⟩)) :
  ∃r,c.w.heap[l]?=some (.loop r)/\r.params=ps.toArray/\r.assign=asg/\r.body=bd/\aS c r.tmps.toList fr/\st.fits r:=by
 obtain⟨b,r,e1,e2,e3⟩:=hs.loop id st fr ps asg bd hd ho;have e:=ZH (hr.symm.trans e1);subst e;exact⟨r,e2,e3⟩
theorem L5{c:Cx}(hs:Sr c){id l:Nat}{st st':EZ}{fr:Ey}{ps:List Tmp}{asg bd:Code}{r r':Loop}(hd:c.D id)(ho:c.σ[id]?=some (.loop st fr ps asg bd))(hr:c.ρ id=.pointer (some ⟨l,0,none⟩))(hfl:fl<=id)
  (hh:c.w.heap[l]?=some (.loop r)) (h1:r'.params=ps.toArray) (h2:r'.assign=asg) (h3:r'.body=bd) (h4:aS c r'.tmps.toList fr) (h5:st'.fits r') :
  ∃c',c'.w=c.w.putObj l (.loop r')/\c'.σ=c.σ.set id (.loop st' fr ps asg bd)/\Sr c'/\Nx fl c c':=
 ⟨c.put (c.w.putObj l (.loop r')) id (c.ρ id) (.loop st' fr ps asg bd),rfl,rfl,Sr.tZ hs hd ho trivial trivial Ap hh yg ⟨hr,r',rfl,h1,h2,h3,h4,h5⟩,Nx.tZ hs hd ho trivial trivial Ap hfl hh yg⟩
theorem QT{c:Cx}(hs:Sr c){id l:Nat}{st:EZ}{fr:Ey}{ps:List Tmp}{asg bd:Code}{r r':Loop}(hd:c.D id)(ho:c.σ[id]?=some (.loop st fr ps asg bd))(hr:c.ρ id=.pointer (some ⟨l,0,none⟩))(hfl:fl<=id)
  (hh:c.w.heap[l]?=some (.loop r)):∃c',c'.w=c.w.putObj l (.loop r')/\c'.σ=c.σ.set id .none/\Sr c'/\Nx fl c c':=
 ⟨c.put (c.w.putObj l (.loop r')) id (c.ρ id) .none,rfl,rfl,Sr.tZ hs hd ho trivial trivial Ap hh yg trivial,Nx.tZ hs hd ho trivial trivial Ap hfl hh yg⟩
theorem aGg{code:sH}(h:QU P code){F:Fence}(hF:Open F P){id l:Nat}{args:Ey}{c:Cx}{vs:Fa}{p:PD}{σ':Ex}(hc:EL code fl id args c.σ=some (p,σ'))(hs:Sr c)(hX:Xw fl c)
  (hv:aS c vs args) (hd:c.D id) (hr:c.ρ id=.pointer (some ⟨l,0,none⟩)) :
  ∃g tmps asg bd,(Instr.yield l vs.toArray).run P c.w=.ok (.round l g tmps asg bd) c.w/\∀m,RoundIn F m P l g tmps asg bd c.w (CU fl c p σ'):=by
 unfold EL at hc;split at hc
 .rename_i hfl;split at hc
  .rename_i fr pp asg bd hlo;split at hc
   .rename_i hlen;obtain⟨r,hh,hp,ha,hb,ht,hst⟩:=CS hs hd hlo hr;have hvl:=hv.1;refine⟨_,_,_,_,run_yield hh (by simp[hp,hvl,hlen]),λm=>?_⟩;have hFl:Open (F.inRound l) P:=⟨hF.fn,hF.depth,hF.name,hF.alive⟩;refine roundIn_of_wpIn (hF.fn _) ?_;split at hc
    .rename_i aQ ms1 σ1 hassign;have hfr:aS c ((r.params.zip vs.toArray).foldl (λtmps x=>tmps.setIfInBounds x.1 x.2) r.tmps).toList (tQ fr pp args):=by
      rw[<-Array.foldl_toList,ZK,hp];simp only[Array.toList_zip];exact ZJ pp vs args _ _ hv ht (by rw[hvl,hlen])
     have hno:kL c.σ[id]?:=by rw[hlo];trivial
     refine pK.wpIn ?_;rw[ha];refine h (a:={ tmps:=_,defers:=[] }) hFl hassign hs hX ⟨hfr,hs.jA⟩ trivial (⟨l,rfl,hd,hno,hr⟩:AO (F.inRound l) c (some id)) m _ λc1 a1 e1 hs1 j5 jD nQ=>?_
     simp only at e1 jD nQ;simp only[PX.HT,Exit.then];obtain⟨er,ZL⟩:=j5.mG id hd hno;have uA:=j5.bA id hd;have lP:=er.trans hr;split at hc
     .rename_i fE EW EX EY hlo1;rw[<-e1]at hlo1;obtain⟨r1,ZM,qL,ha1,hb1,L6,aGh⟩:=CS hs1 uA hlo1 lP;refine⟨_,run_beginRound ZM aGh.1,?_⟩;obtain⟨c2,w2,e2,hs2,fW⟩:=L5 (fl:=fl) hs1 (st':=.busy) (r':={ r1 with state:=.busy }) uA hlo1 lP hfl ZM qL ha1 hb1 L6 rfl;have QS:kL c2.σ[id]?:=(fW.mG id uA ZL).2;have gT:=(fW.mG id uA ZL).1.trans lP;have mW:=fW.bA id uA;rw[<-w2];split at hc
      .rename_i x wN ms2 σ2 hbody;rw[e1.symm,<-e2]at hbody;have EV:=hX.next hs j5;refine pK.wpIn ?_;rw[hb];refine h (a:=a1) hFl hbody hs2 (EV.next hs1 fW) (FR.mono fW jD) (nQ.mono fW) (⟨l,rfl,mW,QS,gT⟩:AO (F.inRound l) c2 (some id)) m _ λc3 a3 e3 hs3 qJ _ _=>?_
       simp only at e3;have E7:=qJ.bA id mW;have eN:=(qJ.mG id mW QS).1.trans gT;have QV:Nx fl c c3:=j5.trans (fW.trans qJ);split at hc
       .rename_i wO uZ wP wQ hlo3;rw[<-e3]at hlo3;obtain⟨r3,E8,QW,QX,hb3,QY,E9⟩:=CS hs3 E7 hlo3 eN;cases x with
        |normal=>
         simp only[yAb,yAc]at hc;obtain⟨rfl,rfl⟩:=hc;obtain⟨c4,w4,e4,AP,HX⟩:=L5 (fl:=fl) hs3 (st':=.ready) (r':={ r3 with state:=.ready,pending:=none }) E7 hlo3 eN hfl E8 QW QX hb3 QY ⟨rfl,rfl⟩;refine⟨_,_,run_endRound none E8,?_⟩;have:=Leaves.of (p:=.bool true) (v:=.bool true) AP (QV.trans HX) (.bool true);rw[w4,e4,e3]at this;exact this
        |ret=>
         simp only[yAb,yAc]at hc;obtain⟨rfl,rfl⟩:=hc;obtain⟨c4,w4,e4,AP,HX⟩:=L5 (fl:=fl) hs3 (st':=.done .ret) (r':={ r3 with state:=.done,pending:=some .ret }) E7 hlo3 eN hfl E8 QW QX hb3 QY ⟨rfl,rfl⟩;refine⟨_,_,run_endRound (some .ret) E8,?_⟩;exact jj
        |exit k=>
         simp only[yAb,yAc]at hc;obtain⟨rfl,rfl⟩:=hc;obtain⟨c4,w4,e4,AP,HX⟩:=L5 (fl:=fl) hs3 (st':=.done (.exit k)) (r':={ r3 with state:=.done,pending:=some (.exit k) }) E7 hlo3 eN hfl E8 QW QX hb3 QY ⟨rfl,rfl⟩;refine⟨_,_,run_endRound (some (.exit k)) E8,?_⟩;exact jj
       .simp at hc
      .simp at hc
     .simp at hc
    .simp at hc
   .simp at hc
  .simp at hc
 .simp at hc
def aF(P:Program)(E:aE):Prop:=
 ∀ {F:Fence} {fl:Nat} {f:FuncId} {g:Er} {args:Ey} {c:Cx} {vs:Fa} {p:PD} {σ':Ex},Open F P->E f=some g->g fl args c.σ=some (p,σ')->Sr c->Xw fl c->aS c vs args ->
   (∃fn,P.funcs[f]?=some fn/\fn.body.isSome=true)/\∀m,CallsIn F m P f vs.toArray c.w (CU fl c p σ')
theorem ZF{E:aE}{code:sH}(hE:aF P E)(h:QU P code){F:Fence}(hF:Open F P):Ok F P (qH P E code) where
 round:=λhc hs hX hv hd hr=>aGg h hF hc hs hX hv hd hr
 fn:=by
  intro fl f args c vs p σ' hc hs hX hv;simp only[qH]at hc;split at hc
  .rename_i g hg;exact hE hF hg hc hs hX hv
  .unfold CR at hc;split at hc
   .rename_i fn hfn;split at hc
    .rename_i bd hbd;refine⟨⟨fn,hfn,by simp[hbd]⟩,λm=>?_⟩;split at hc
     .rename_i r hr;have hF0:Open { F with round:=none } P:=⟨hF.fn,hF.depth,hF.name,hF.alive⟩;have key:CallsIn { F with round:=none } m P f vs.toArray c.w (CU fl c p σ'):=by
       refine callsIn_of_wp_marks hfn hbd (hF.fn f) (pK.wpIn ?_);have hfr:aS c (vs.toArray++Array.replicate (fn.ntmps-vs.toArray.size) undef).toList (args++List.replicate (fn.ntmps-args.length) (.aP [])):=by
        have e:(vs.toArray++Array.replicate (fn.ntmps-vs.toArray.size) undef).toList=vs++List.replicate (fn.ntmps-args.length) undef:=by simp[hv.1]
        rw[e];refine hv.append ⟨yg,λi v d h1 h2=>?_⟩;rw[List.getElem?_replicate]at h1 h2;split at h1
        .simp only[yAb]at h1 h2;subst h1;rw[yAJ ‹_›]at h2;simp only[yAb]at h2;subst h2;exact VR.undef c
        .simp at h1
       refine h (a:={ tmps:=_,defers:=[] }) hF0 hr hs hX ⟨hfr,hs.jA⟩ trivial (rfl:AO { F with round:=none } c none) m _ λc1 a1 e1 hs1 j5 jD nQ=>?_
       have leave:(∀k,r.x≠.exit k)->LeavesInM { F with round:=none } m P fn a1.tmps (CU fl c p σ') a1.defers .returning c1.w:=by
        intro hx;unfold eF at hc;have hc:(match tX fl r.ms r.σ with
          |some σ=>match wS P r.fr σ fn.results.toList with
           |some ps=>some (CO ps,σ)
           |none=>none
          |none=>none)=some (p,σ'):=by
         split at hc
         .rename_i k hk;exact absurd hk (hx k)
         .exact hc
        split at hc
        .rename_i σ1 hdm;split at hc
         .rename_i qs hqs;simp only[yAb,yAc]at hc;obtain⟨rfl,rfl⟩:=hc;rw[<-e1]at hdm;refine ZI r.ms a1.defers c1 σ1 hdm hs1 nQ λc2 e2 hs2 fW=>?_
          rw[<-e2]at hqs;obtain⟨v,rv,hvv⟩:=aGi (P:=P) hs2 (FR.mono fW jD) hqs;refine⟨v,rv,?_⟩;have:=Leaves.of hs2 (j5.trans fW) hvv;rw[e2]at this;exact this
         .simp at hc
        .simp at hc
       cases hx:r.x with
       |normal=>exact leave (by rw[hx];simp)
       |ret=>exact leave (by rw[hx];simp)
       |exit k=>exfalso;unfold eF at hc;rw[hx]at hc;simp at hc
      exact⟨key.1,key.2⟩
     .simp at hc
    .simp at hc
   .simp at hc
end
end
section
open Go.RowKit
section
variable{F:Fence}{P:Program}{call:bY}{fl:Nat}
theorem ZE(hF:Open F P)(hc:Ok F P call){c1:Cx}{id l n:Nat}{a a':Act}{g:Operand}{gf:FuncId}{cap fr:Ey}{ms:List Nat}{q:PD}{σ2:Ex}{r:PO}{Q:Exit->Act->World->Prop}
  (hs1:Sr c1) (EV:Xw fl c1) (hd:c1.D id) (hρ:c1.ρ id=.pointer (some ⟨l,0,none⟩)) (hno:kL c1.σ[id]?) (hfl:fl<=id) (hg:VR c1 (a.eval g) (.func gf cap))
  (hcall:call fl (.inl gf) (.yield id::cap) c1.σ=some (q,σ2)) (hleave:wL id fr ms σ2=some r) (hf:FR c1 a' fr) (hm:MR c1 a'.defers ms)
  (hQ:∀kM oQ,kM.σ=r.σ->Sr kM->Nx fl c1 kM->FR kM oQ r.fr->MR kM oQ.defers r.ms->Q r.x.HT oQ kM.w) :
  ∃(d:Deferred) (w₁':World) (f:FuncId) (args:Array Value) (w₂:World),(resolve a.eval (rangeCall g l) 0).run P c1.w=.ok d w₁'/\(∀f',Target.leads P w₁' d.target d.args=some f'->F.fn f') /\
   (invoke d.target d.args).run P w₁'=.ok (.enter f args) w₂/\(F.depth.isSome=true->1<=n)/\CallsIn F (n-1) P f args w₂ (rangePost F n P l Q a'):=by
 obtain⟨cs,e,hcs⟩:=hg.HU;have hy:VR c1 (.func (.yield l) #[] #[]) (.yield id):=.yield id l hd hno hρ;have hvs:aS c1 (.func (.yield l) #[] #[]::cs) (.yield id::cap):=⟨by simpa using hcs.1,λi u d hu hd'=>by
  cases i with
  |zero=>simp at hu hd';subst hu hd';exact hy
  |succ i=>exact hcs.2 i u d Dm (by simpa using hd')⟩
 obtain⟨⟨fn,hfn,hb⟩,hcalls⟩:=hc.fn hcall hs1 EV hvs;have hb':fn.body.isNone=false:=Df;have hn:=hF.name gf fn hfn;refine⟨{ target:=.fn (.func gf) cs.toArray,args:=#[.func (.yield l) #[] #[]] },c1.w,gf,(.func (.yield l) #[] #[]::cs).toArray,c1.w,?_,λf' _=>hF.fn f',?_,hF.asks,yCE (hcalls _) λen w3 he=>?_⟩
 .simp only[rangeCall,resolve,e,Deferred.ofValue];simp[Act.eval]
 .have e2:(#[.func (.yield l) #[] #[]]++cs.toArray:Array Value)=(.func (.yield l) #[] #[]::cs).toArray:=by apply yCg;simp
  simp only[invoke,callFunc,yBa,run_program,hfn,hn,hb',yAx,yAN,yBk,yBj,e2]
 .cases en with
  |panicked ch=>exact he.elim
  |outgrown=>exact he.elim
  |returned v=>
   obtain⟨c2,rfl,e2,hs2,fW,_,_⟩:=he;have mW:=fW.bA id hd;obtain⟨er,QS⟩:=fW.mG id hd hno;have oF:=er.trans hρ;unfold wL at hleave;rw[<-e2]at hleave;split at hleave
   .rename_i fE EW EX EY hlo;simp only[yAb]at hleave;subst hleave;obtain⟨r2,hh,_,_,_,_,hst⟩:=CS hs2 mW hlo oF;obtain⟨c3,w3,e3,hs3,qJ⟩:=QT (fl:=fl) (r':={ r2 with state:=.exhausted }) hs2 mW hlo oF hfl hh;refine⟨_,_,run_endLoop hh (by rw[hst.1];simp),?_⟩;rw[<-w3,hst.2];exact hQ c3 a' e3 hs3 (fW.trans qJ) ((hf.mono fW).mono qJ) ((hm.mono fW).mono qJ)
   .rename_i fE EW EX EY hlo;simp only[yAb]at hleave;subst hleave;obtain⟨r2,hh,_,_,_,_,hst⟩:=CS hs2 mW hlo oF;obtain⟨c3,w3,e3,hs3,qJ⟩:=QT (fl:=fl) (r':={ r2 with state:=.exhausted }) hs2 mW hlo oF hfl hh;refine⟨_,_,run_endLoop hh (by rw[hst.1];simp),?_⟩;rw[<-w3,hst.2];exact wpIn_ret (hQ c3 a' e3 hs3 (fW.trans qJ) ((hf.mono fW).mono qJ) ((hm.mono fW).mono qJ))
   .rename_i k fE EW EX EY hlo;simp only[yAb]at hleave;subst hleave;obtain⟨r2,hh,_,_,_,_,hst⟩:=CS hs2 mW hlo oF;obtain⟨c3,w3,e3,hs3,qJ⟩:=QT (fl:=fl) (r':={ r2 with state:=.exhausted }) hs2 mW hlo oF hfl hh;refine⟨_,_,run_endLoop hh (by rw[hst.1];simp),?_⟩;rw[<-w3,hst.2];exact wpIn_exit (hQ c3 a' e3 hs3 (fW.trans qJ) ((hf.mono fW).mono qJ) ((hm.mono fW).mono qJ))
   .simp at hleave
theorem aGb(hF:Open F P)(hc:Ok F P call){rd:Option Nat}{gf:FuncId}{cap fr:Ey}{ps:Array Tmp}{assign body:Code}{ms:List Nat}{cx:Cx}{a:Act}{r:PO}{m:Nat}{Q:Exit->Act->World->Prop}{g:Operand}
  (h:EM call rd gf cap ps.toList assign body fl fr ms cx.σ=some r) (hs:Sr cx) (hX:Xw fl cx) (hf:FR cx a fr) (hm:MR cx a.defers ms) (hr:AO F cx rd) (hg:VR cx (a.eval g) (.func gf cap))
  (hQ:∀kM oQ,kM.σ=r.σ->Sr kM->Nx fl cx kM->FR kM oQ r.fr->MR kM oQ.defers r.ms->Q r.x.HT oQ kM.w):(Code.rangeFunc g ps assign body).wpIn F m P Q a cx.w:=by
 refine wpIn_rangeFunc λfn _=>?_
 unfold EM at h;split at h
 .rename_i hfl;split at h
  ·
   split at h
   .rename_i q σ2 hcall;have hro:F.round=none:=hr;have g1:cx.w.grownBy (cx.w.alloc (.deferred (some []))) none:=wV _ _;have b1:∀b,aY (.pointer (some ⟨cx.w.heap.size,0,none⟩))=some b->cx.w.heap.size<=b/\b<(cx.w.alloc (.deferred (some []))).heap.size:=λb hb=>by simp[aY]at hb;subst hb;simp
    let c1:=cx.push (cx.w.alloc (.deferred (some []))) (.pointer (some ⟨cx.w.heap.size,0,none⟩)) .mark
    have hs1:Sr c1:=Sr.push hs g1 b1 ⟨_,rfl,yBW _ _⟩;have j5:Nx fl cx c1:=Nx.push hs g1 (λb hb=>(b1 b hb).1);have l1:c1.σ.length=cx.σ.length+1:=by simp[c1,Cx.push]
    let sG:Loop:={ state:=.ready,pending:=none,fn,tmps:=a.tmps,params:=ps,assign,body,defers:=cx.w.heap.size }
    have g2:c1.w.grownBy (c1.w.alloc (.loop sG)) none:=wV _ _;have CT:c1.w.heap.size=cx.w.heap.size+1:=by show(cx.w.alloc _).heap.size=_;simp
    have b2:∀b,aY (.pointer (some ⟨cx.w.heap.size+1,0,none⟩))=some b->c1.w.heap.size<=b/\b<(c1.w.alloc (.loop sG)).heap.size:=λb hb=>by simp[aY]at hb;subst hb;simp[CT]
    have hnew:(c1.w.alloc (.loop sG)).heap[cx.w.heap.size+1]?=some (.loop sG):=by rw[<-CT];exact yBW _ _
    let c2:=c1.push (c1.w.alloc (.loop sG)) (.pointer (some ⟨cx.w.heap.size+1,0,none⟩)) (.loop .ready fr ps.toList assign body)
    have hs2:Sr c2:=Sr.push hs1 g2 b2 ⟨_,_,rfl,hnew,by simp[sG],rfl,rfl,aS.mono j5 hf.1,⟨rfl,rfl⟩⟩;have fW:Nx fl c1 c2:=Nx.push hs1 g2 (λb hb=>(b2 b hb).1);have HV:=j5.trans fW;have dB:c2.σ=cx.σ++[.mark]++[.loop .ready fr ps.toList assign body]:=rfl;have pn:=gC (c:=c1) (w:=c1.w.alloc (.loop sG)) (v:=.pointer (some ⟨cx.w.heap.size+1,0,none⟩)) (o:=.loop .ready fr ps.toList assign body);rw[l1]at pn;rw[<-dB]at hcall;obtain⟨d,w₁',f,args,w₂,h1,h2,h3,h4,h5⟩:=ZE (n:=m) (a:=a) (a':={ a with defers:=[{ target:=.collected cx.w.heap.size,args:=#[] }]++a.defers }) (g:=g) (Q:=Q) hF hc hs2 (hX.next hs HV) pn.2.2 pn.2.1 (by rw[pn.1];trivial) ye (hg.mono HV) hcall h (hf.mono HV)
     ⟨⟨_,rfl,fW.bA _ (.inr rfl),by rw[tY (id:=cx.σ.length) hs1 (.inr rfl),gC.1];trivial,(oG hs1 (.inr rfl)).trans gC.2.1⟩,hm.mono HV⟩
     (λkM oQ e1 q1 q2 q3 q4=>hQ kM oQ e1 q1 (HV.trans q2) q3 q4)
    refine⟨_,_,c2.w,d,w₁',f,args,w₂,?_,h1,h2,h3,h4,h5⟩;rw[hro];exact run_enterLoop_outer fn a.tmps ps assign body
   .exact af
  ·
   rename_i id0;split at h
   .rename_i st0 fE EW EX EY hlo0;split at h
    .rename_i q σ2 hcall;obtain⟨l0,hro,HW,aSO,aGc⟩:=hr;obtain⟨r0,hh0,_⟩:=CS hs HW hlo0 aGc
     let sG:Loop:={ state:=.ready,pending:=none,fn,tmps:=a.tmps,params:=ps,assign,body,defers:=r0.defers }
     have g2:cx.w.grownBy (cx.w.alloc (.loop sG)) none:=wV _ _;have b2:∀b,aY (.pointer (some ⟨cx.w.heap.size,0,none⟩))=some b->cx.w.heap.size<=b/\b<(cx.w.alloc (.loop sG)).heap.size:=λb hb=>by simp[aY]at hb;subst hb;simp
     let c2:=cx.push (cx.w.alloc (.loop sG)) (.pointer (some ⟨cx.w.heap.size,0,none⟩)) (.loop .ready fr ps.toList assign body)
     have hs2:Sr c2:=Sr.push hs g2 b2 ⟨_,_,rfl,yBW _ _,by simp[sG],rfl,rfl,hf.1,⟨rfl,rfl⟩⟩;have fW:Nx fl cx c2:=Nx.push hs g2 (λb hb=>(b2 b hb).1);have dB:c2.σ=cx.σ++[.loop .ready fr ps.toList assign body]:=rfl;have pn:=gC (c:=cx) (w:=cx.w.alloc (.loop sG)) (v:=.pointer (some ⟨cx.w.heap.size,0,none⟩)) (o:=.loop .ready fr ps.toList assign body);rw[<-dB]at hcall;obtain⟨d,w₁',f,args,w₂,h1,h2,h3,h4,h5⟩:=ZE (n:=m) (a:=a) (a':={ a with defers:=[]++a.defers }) (g:=g) (Q:=Q) hF hc hs2 (hX.next hs fW) pn.2.2 pn.2.1 (by rw[pn.1];trivial) hfl (hg.mono fW) hcall h (hf.mono fW)
      (hm.mono fW) (λkM oQ e1 q1 q2 q3 q4=>hQ kM oQ e1 q1 (fW.trans q2) q3 q4)
     refine⟨_,_,c2.w,d,w₁',f,args,w₂,?_,h1,h2,h3,h4,h5⟩;rw[hro];unfold Instr.enterLoop;simp only[yBa,run_getLoop hh0,run_newObj_alloc,Result.andThen,yBk];rfl
    .exact af
   .exact af
 .exact af
end
theorem aGd{P:Program}{E:aE}(hE:aF P E)(hP:P.follows .mixedOrders=true):∀n,QU P (gS P E n):=by
 intro n
 induction n with
 |zero=>intro F rd c fl fr ms cx r a hF h;simp[gS]at h
 |succ n ih=>
  intro F rd c fl fr ms cx r a hF h hs hX hf hm hr m Q hQ;have hc:Ok F P (qH P E (gS P E n)):=ZF hE ih hF;unfold gS at h;split at h
  .simp only[yAb]at h;subst h;exact wpIn_skip (hQ cx a rfl hs (.refl _ _) hf hm)
  .split at h
   .rename_i id ops _ fr' σ' hseq;simp only[yAb]at h;subst h;refine wpIn_region ?_;unfold AN at hseq;rw[List.range_eq_range'];split at hseq
    .rename_i x hx;simp only[yAb]at hseq;subst hseq;have:=ZG (n:=m) (Q:=Q) hF hc ops.toList 0 yg hs hX hf hx (λc' a' e1 q1 q2 q3 q4=>hQ c' a' e1 q1 q2 q3 (by rw[q4];exact hm.mono q2));exact bq
    .have:=aGe (n:=m) (Q:=Q) hF hc hs hX hf hseq (λc' a' e1 q1 q2 q3 q4=>hQ c' a' e1 q1 q2 q3 (by rw[q4];exact hm.mono q2));exact bq
   .exact af
  .split at h
   .rename_i id ops _ fr' σ' hdr;simp only[yAb]at h;subst h;refine wpIn_region_any hP ?_;have hg:cx.w.grownBy cx.w.drew none:=grownBy_drew _;have nx:Nx fl cx (cx.at cx.w.drew):=Nx.grow hs hg;exact aGf (n:=m) (c0:=cx.at cx.w.drew) hF hc (Sr.grow hs hg) (hX.next hs nx) (hf.mono nx) hdr (λc' a' e1 q1 q2 q3 q4=>hQ c' a' e1 q1 (nx.trans q2) q3 (by rw[q4];exact(hm.mono nx).mono q2))
   .exact af
  .rename_i x y;refine wpIn_seq ?_;split at h
   .rename_i aQ ms1 σ1 hx;refine pK.wpIn (ih hF hx hs hX hf hm hr m _ λc1 a1 e1 hs1 j5 jD nQ=>?_);simp only at e1 jD nQ;rw[<-e1]at h;exact pK.wpIn (ih hF h hs1 (hX.next hs j5) jD nQ (hr.mono j5) m _ λc2 a2 e2 hs2 fW uY hm2=>hQ c2 a2 e2 hs2 (j5.trans fW) uY hm2)
   .exact dz
  .rename_i g x y;split at h
   .rename_i hg;exact wpIn_cond_true (dO hf hg).yL (pK.wpIn (ih hF h hs hX hf hm hr m Q hQ))
   .rename_i hg;exact wpIn_cond_false (dO hf hg).yL (pK.wpIn (ih hF h hs hX hf hm hr m Q hQ))
   .exact af
  .rename_i id b;refine wpIn_block ?_;split at h
   .rename_i k aQ ms1 σ1 hx;simp only[yAb]at h;subst h;refine pK.wpIn (ih hF hx hs hX hf hm hr m _ λc1 a1 e1 hs1 j5 jD nQ=>?_);have:=hQ c1 a1 e1 hs1 j5 jD nQ;simp only[PX.HT,Exit.inBlock]
    by_cases hk:k=id
    .simp only[hk,yAK]at this ⊢;exact this
    .simp only[hk,yAN]at this ⊢;exact this
   .rename_i hne;refine pK.wpIn (ih hF h hs hX hf hm hr m _ λc1 a1 e1 hs1 j5 jD nQ=>?_);have:=hQ c1 a1 e1 hs1 j5 jD nQ;obtain⟨x',aQ,ms1,σ1⟩:=r;cases x' with
    |normal=>exact this
    |ret=>exact this
    |exit k=>exact absurd h (hne _ _ _ _)
  .rename_i b;show yM F m P b Q a cx.w
   refine yM.round ?_;split at h
   .rename_i aQ ms1 σ1 hx;refine pK.wpIn (ih hF hx hs hX hf hm hr m _ λc1 a1 e1 hs1 j5 jD nQ=>?_);simp only at e1 jD nQ;rw[<-e1]at h;exact ih hF h hs1 (hX.next hs j5) jD nQ (hr.mono j5) m Q λc2 a2 e2 hs2 fW uY hm2=>hQ c2 a2 e2 hs2 (j5.trans fW) uY hm2
   .exact dz
  .rename_i g ps assign body;split at h
   .rename_i gf cap hg;exact aGb hF hc h hs hX hf hm hr (dO hf hg) hQ
   .exact af
  .simp only[yAb]at h;subst h;exact wpIn_exit (hQ cx a rfl hs (.refl _ _) hf hm)
  .simp only[yAb]at h;subst h;exact wpIn_ret (hQ cx a rfl hs (.refl _ _) hf hm)
  .exact af
theorem AI{P:Program}{E:aE}(hE:aF P E)(hP:P.follows .mixedOrders=true){F:Fence}(hF:Open F P)(n:Nat):Ok F P (dG P E n):=ZF hE (aGd hE hP n) hF
end
end Go.Kz
end
