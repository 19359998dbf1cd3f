/- Steps of the proof. -/
import Derived.Lib.AppendZerosOnto
import Derived.Test.YtnogdlnjafblaaaGreatDoorH1
import Derived.OrdersIn
set_option linter.all false
set_option maxHeartbeats 40000000
set_option maxRecDepth 100000
noncomputable section
namespace Go.Kz
section
open Go.RowKit
section
variable{P:Program}{c:Cx}{fl:Nat}
theorem O7(n:Nat):∀(k:Nat) (cs:List PD),(E3 n k cs).length=k
 |0,_=>rfl
 |k+1,cs=>by simp[E3,O7 n k]
theorem aB3(n:Nat):∀(k:Nat) (cs:List PD),k*n<=cs.length->(E3 n k cs).flatMap PD.cells=cs.take (k*n)
 |0,_,_=>by simp[E3]
 |k+1,cs,h=>by
  have h':k*n+n<=cs.length:=by rw[yBs]at h;omega
  rw[E3,yBg,aB3 n k (cs.drop n) zc];show cs.take n++(cs.drop n).take (k*n)=_
  rw[yBs,Nat.one_mul,yCq (k*n) n,List.take_add]
theorem aB4(n:Nat):∀(k:Nat) (cs:List PD),k*n<=cs.length->∀x∈E3 n k cs,x.cells.length=n
 |0,_,_,x,hx=>by simp[E3]at hx
 |k+1,cs,h,x,hx=>by
  have h':k*n+n<=cs.length:=by rw[yBs]at h;omega
  rw[E3]at hx;rcases yAS.1 hx with rfl|hx
  .simp[PD.cells];omega
  .exact aB4 n k (cs.drop n) zc x hx
theorem aKi(hs:Sr c){x:PD}{sz:Nat}{ys:Dq}(h:UU c.σ x=some (sz,ys)){vx:Value}(hx:VR c vx x):∃B cap fly,vx=.slice B ys.length cap/\ys.length<=cap/\(∀y∈ys,y.cells.length=sz)/\fly.length=ys.length*sz/\(∀v∈fly,v.oneCell'=true) /\
  (∀(j:Nat) (v:Value),fly[j]?=some v->∃ad,B=some ad/\c.w.cell? (ad.add j)=some v)/\aK c fly (ys.flatMap PD.cells):=by
 unfold UU at h;split at h
 .rename_i kO ys0 tok;simp only[yAb,yAc]at h;obtain⟨rfl,rfl⟩:=h;obtain⟨A,cap,fly,rfl,a1,a2,a3,a4,a5,a6,a7,a8⟩:=hx.oH;refine⟨A,cap,fly,rfl,a1,a3,a4,a5,λj v hj=>?_,by rw[a4,RA _ a3],a7⟩;exact kr
 .rename_i id ver off n kO;split at h
  .rename_i e sz' fH cs hq;split at h
   .rename_i hc;obtain⟨rfl,rfl,hle⟩:=hc;simp only[yAb,yAc]at h;obtain⟨rfl,rfl⟩:=h;obtain⟨b,cap,rfl,hp,h1,h2⟩:=hx.O8;obtain⟨_,C,q2,q3⟩:=(hp.2 e _ _ cs hq).2 rfl;obtain⟨b',C',cur,e1,e2,e3,e4,e5,e6,e7,e8⟩:=hs.row id e _ _ cs hp.1 hq;rw[q2]at e1;simp only[yBG,yAb,yBt,yAV,yBM]at e1;obtain⟨rfl,rfl⟩:=e1;have hdl:n*sz'<=(cs.drop off).length:=zc;have hlen:(((cur.toList.take cs.length).drop off).take (n*sz')).length=n*sz':=zc;refine⟨some ⟨b,off,none⟩,cap,((cur.toList.take cs.length).drop off).take (n*sz'),by rw[O7],by rw[O7];exact h1,aB4 _ _ _ hdl,by rw[hlen,O7],?_,?_,?_⟩
    .intro v hv;exact e8 v (yAy (yBJ (yAy hv)))
    .intro j v hj;refine⟨_,rfl,?_⟩;rw[KE];simp only[World.cell?,e2];rw[yAv]at hj;split at hj
     .rw[yBy,yAv]at hj;split at hj
      .simpa using hj
      .cases hj
     .cases hj
    .rw[aB3 _ _ _ hdl];exact e7.take_drop off (n*sz')
   .cases h
  .cases h
 .rename_i id off n kO;split at h
  .rename_i q hq;split at h
   .rename_i hle;simp only[yAb,yAc]at h;obtain⟨rfl,rfl⟩:=h;obtain⟨b,cap,rfl,hD,_,hr,h1,h2⟩:=hx.M4;obtain⟨b',cur,T,e1,e2,e3,e4⟩:=hs.box id q hD hq;rw[hr]at e1;simp only[yBN,yAb,yBt,yAV]at e1;subst e1;have hdl:n*kO<=(q.cells.drop off).length:=zc;have hcl:cur.toList.length=q.cells.length:=e3.1;have hlen:((cur.toList.drop off).take (n*kO)).length=n*kO:=by rw[yAt,yBf];omega
    refine⟨some ⟨b,off,none⟩,cap,(cur.toList.drop off).take (n*kO),by rw[O7],by rw[O7];exact h1,aB4 _ _ _ hdl,by rw[hlen,O7],?_,?_,?_⟩
    .intro v hv;exact e4.1 v (yBJ (yAy hv))
    .intro j v hj;refine⟨_,rfl,?_⟩;rw[KE];exact lu
    .rw[aB3 _ _ _ hdl];exact e3.take_drop off (n*kO)
   .cases h
  .cases h
 .cases h
theorem aKj{zs:Dt}(h:∀v∈zs.toList,v.oneCell'=true)(h0:0<zs.size)(n:Nat):∀v∈(Builtin.zeroCells zs n).toList,v.oneCell'=true:=by
 intro v hv;simp only[Builtin.zeroCells,yDg,yDh,yAw]at hv;obtain⟨k,_,rfl⟩:=hv;have kP:k%zs.size<zs.size:=yBj _ h0;apply h;simp[kP]
theorem aTF{w:World}{t ty e:TypeId}{i:TypeInfo}{z:Value}(hu:P.underlying t=some (.slice e))(hi:P.info? e=some i)(hz:i.zero=some z)(hzs:z.cells.size=i.size)(hpos:0<i.size)(hz1:∀v∈z.cells.toList,v.oneCell'=true)
  {A B:Option Addr} {n cap m c':Nat} {flx fly:Ds} (hA:A=none->n=0/\cap=0) (hlx:flx.length=n*i.size) (hx:∀(j:Nat) (v:Value),flx[j]?=some v->∃ad,A=some ad/\w.cell? (ad.add j)=some v)
  (hly:fly.length=m*i.size) (hy:∀(j:Nat) (v:Value),fly[j]?=some v->∃ad,B=some ad/\w.cell? (ad.add j)=some v) (RB:∀v∈flx,v.oneCell'=true) (h1y:∀v∈fly,v.oneCell'=true) (hm:0<m) (hcap:cap<n+m) (hmax:n+m<=maxLen) (hby:(n+m)*i.bytes<=140737488355328) :
  ∃C cur w',(Builtin.append_ #[t,t] ty #[.slice A n cap,.slice B m c']).run P w=.ok (.slice (some ⟨w.heap.size,0,none⟩) (n+m) C) w'/\w.grownBy w' none/\w'.heap[w.heap.size]?=some (.cells cur e (0,0))/\cur.size=C*i.size /\
   n+m<=C/\C<=maxLen/\(∀v∈cur.toList,v.oneCell'=true)/\∃rest,cur.toList=flx++fly++rest:=by
 have aE9:0<fly.length:=by rw[hly];exact yDi hm hpos
 obtain⟨bd,rfl,_⟩:=hy 0 fly[0] (by simp[aE9]);have hnews:∀(j:Nat) (u:Value),fly[j]?=some u->w.cell? (bd.add j)=some u:=λj u hj=>by
  obtain⟨ad,e',h9⟩:=hy j u hj;exact ji
 have fin:∀old,old<n+m->w.grownBy (w.drew.alloc (.cells (flx.toArray++fly.toArray++Builtin.zeroCells z.cells (grownCap w (n+m) old e-(n+m))) e)) none /\
   (w.drew.alloc (.cells (flx.toArray++fly.toArray++Builtin.zeroCells z.cells (grownCap w (n+m) old e-(n+m))) e)).heap[w.heap.size]?=some (.cells (flx.toArray++fly.toArray++Builtin.zeroCells z.cells (grownCap w (n+m) old e-(n+m))) e (0,0)) /\
   (flx.toArray++fly.toArray++Builtin.zeroCells z.cells (grownCap w (n+m) old e-(n+m))).size=grownCap w (n+m) old e*i.size/\n+m<=grownCap w (n+m) old e/\grownCap w (n+m) old e<=maxLen /\
   (∀v∈(flx.toArray++fly.toArray++Builtin.zeroCells z.cells (grownCap w (n+m) old e-(n+m))).toList,v.oneCell'=true)/\∃rest,(flx.toArray++fly.toArray++Builtin.zeroCells z.cells (grownCap w (n+m) old e-(n+m))).toList=flx++fly++rest:=by
  intro old ho;have hge:=yDj w (n+m) old e;have hcm:grownCap w (n+m) old e<=maxLen:=yDk w (n+m) old e hmax;refine⟨⟨rfl,rfl,rfl,yo,λk hk _=>yDx w.drew _ hk⟩,yBL w.drew _,?_,hge,hcm,?_,_,by simp only[yCM];rfl⟩
  .simp only[Array.size_append,yCN,size_zeroCells,hzs,hlx,hly,<-yBs]
   congr 1
   omega
  .intro v hv;simp only[yCM,yBv]at hv;rcases hv with(hv|hv)|hv
   .exact RB v hv
   .exact h1y v hv
   .exact aKj hz1 ym _ v hv
 cases A with
 |none=>
  obtain⟨rfl,rfl⟩:=hA rfl;have RD:flx=[]:=yAf Df;subst RD;have hr:=run_append_nil (P:=P) w t ty e i z hu hi hz bd m c' fly hly hnews ym Ce (by have hb:=hby;simp only[yAp]at hb;omega);exact ot
 |some ad=>
  have holds:∀(j:Nat) (u:Value),flx[j]?=some u->w.cell? (ad.add j)=some u:=λj u hj=>by
   obtain⟨ZC,e',h9⟩:=hx j u hj;exact ji
  have hr:=run_append_grow (P:=P) w t ty e i z hu hi hz ad n cap flx hlx holds bd m c' fly hly hnews hcap Ce (yDy hcap hby);exact⟨_,_,_,hr,fin cap hcap⟩
theorem aTG{w:World}{t ty e:TypeId}{i:TypeInfo}(hu:P.underlying t=some (.slice e))(hi:P.info? e=some i){b off n cap m c':Nat}{B:Option Addr}{fly:Ds}
  (hly:fly.length=m*i.size) (hy:∀(j:Nat) (v:Value),fly[j]?=some v->∃ad,B=some ad/\w.cell? (ad.add j)=some v) (hroom:n+m<=cap) :
  (Builtin.append_ #[t,t] ty #[.slice (some ⟨b,off,none⟩) n cap,.slice B m c']).run P w=Result.andThen ((storeCells ⟨b,off+n*i.size,none⟩ fly).run P w) (λ_ w'=>.ok (.slice (some ⟨b,off,none⟩) (n+m) cap) w'):=by
 have hf:(Builtin.firstCells i.size m (.slice B m c')).run P w=.ok fly.toArray w:=by
  cases B with
  |none=>
   have:fly=[]:=by
    cases fly with
    |nil=>rfl
    |cons x xs=>obtain⟨_,e',_⟩:=hy 0 x rfl;cases e'
   exact ql
  |some bd=>
   simp only[Builtin.firstCells];exact UW hly λj v hj=>by
    obtain⟨ad,e',h9⟩:=hy j v hj;exact ji
 simp[Builtin.append_,yAN hu,sizeOf,typeInfo,hi,Builtin.lenOf,hroom,hf,KE]
structure aKk (P:Program) (w:World) (t u ty e:TypeId) (i:TypeInfo) (vx:Value) (m:Nat) (fly:List Value):Prop where
 none_:m=0->∀(A:Option Addr) (n cap:Nat),n<=cap->(Builtin.append_ #[t,u] ty #[.slice A n cap,vx]).run P w=.ok (.slice A n cap) w
 grow:0<m->∀(A:Option Addr) (n cap:Nat) (flx:List Value),(A=none->n=0/\cap=0)->flx.length=n*i.size->(∀(j:Nat) (v:Value),flx[j]?=some v->∃ad,A=some ad/\w.cell? (ad.add j)=some v)->(∀v∈flx,v.oneCell'=true) ->
  cap<n+m->n+m<=maxLen->(n+m)*i.bytes<=140737488355328 ->
  ∃C cur w',(Builtin.append_ #[t,u] ty #[.slice A n cap,vx]).run P w=.ok (.slice (some ⟨w.heap.size,0,none⟩) (n+m) C) w'/\w.grownBy w' none/\w'.heap[w.heap.size]?=some (.cells cur e (0,0))/\cur.size=C*i.size /\
   n+m<=C/\C<=maxLen/\(∀v∈cur.toList,v.oneCell'=true)/\∃rest,cur.toList=flx++fly++rest
 room:∀(b off n cap:Nat),n+m<=cap->(Builtin.append_ #[t,u] ty #[.slice (some ⟨b,off,none⟩) n cap,vx]).run P w=Result.andThen ((storeCells ⟨b,off+n*i.size,none⟩ fly).run P w) (λ_ w'=>.ok (.slice (some ⟨b,off,none⟩) (n+m) cap) w')
theorem aKl(hs:Sr c){fn:Nat}{t u ty:TypeId}{s x p:PD}{σ':Dp}(h:nO P fn fl c.σ t s x=some (p,σ')){vs vx:Value}(hvs:VR c vs s)
  (hsrc:∀e i z sz' ys,P.underlying t=some (.slice e)->UU c.σ x=some (sz',ys)->P.info? e=some i->i.zero=some z->z.cells.size=i.size->0<i.size->(∀v∈z.cells.toList,v.oneCell'=true)->(ys.length=0\/sz'=i.size) ->
   ∃fly:List Value,fly.length=ys.length*i.size/\(∀v∈fly,v.oneCell'=true)/\aK c fly (ys.flatMap PD.cells)/\aKk P c.w t u ty e i vx ys.length fly) :
  ∃v w',(Builtin.append_ #[t,u] ty #[vs,vx]).run P c.w=.ok v w'/\Leaves fl c p σ' v w':=by
 unfold nO at h;split at h
 rotate_left
 .cases h
 split at h
 rotate_left
 .cases h
 rename_i e sz' ys hu hw;split at h
 rotate_left
 .cases h
 rename_i i hi;split at h
 rotate_left
 .cases h
 rename_i z hz;split at h
 rotate_left
 .cases h
 rename_i hc;obtain⟨RE,hpos,hzs,hz1⟩:=hc;have hz1:∀v∈z.cells.toList,v.oneCell'=true:=λv hv=>yAn.1 hz1 v hv
 obtain⟨fly,hly,b4,b6,hS⟩:=hsrc e i z sz' ys hu hw hi hz hzs hpos hz1 RE;split at h
 ·
  rename_i sz xs tok;split at h
  rotate_left
  .cases h
  rename_i hc;obtain⟨hsz,hmax,hby,htok⟩:=hc;obtain⟨A,cap,flx,rfl,a1,a2,a3,a4,a5,a6,a7,a8⟩:=hvs.oH;have hcells:∀(j:Nat) (v:Value),flx[j]?=some v->∃ad,A=some ad/\c.w.cell? (ad.add j)=some v:=λj v hj=>by
   exact kr
  split at h
  .rename_i h0;simp only[yAb,yAc]at h;obtain⟨rfl,rfl⟩:=h;exact⟨.slice A xs.length cap,c.w,hS.none_ h0 A xs.length cap a1,c,rfl,rfl,hs,.refl _ _,hvs,λ_ h=>.inl h⟩
  .rename_i h0;simp only[yAb,yAc]at h;obtain⟨rfl,rfl⟩:=h;have hcapn:xs.length=cap:=by
    cases tok<;>first|(simp[Tok.fresh]at htok;done)|(simp only[qW]at a8;omega)
   have hlx:flx.length=xs.length*i.size:=by
    exact uc
   have hA:A=none->xs.length=0/\cap=0:=by
    rintro rfl
    have hx0:xs.length=0:=by
     rcases yDS xs.length with h0|h0
     .exact h0
     .have:0<flx.length:=by rw[hlx];exact yDi h0 hpos
      exact tw
    exact⟨hx0,ym⟩
   obtain⟨C,cur,w',r,g1,g2,g3,g4,g5,g6,rest,g7⟩:=hS.grow (yCE h0) A xs.length cap flx hA hlx hcells a5 ym hmax hby;have hcl:((xs++ys).flatMap PD.cells).length=(flx++fly).length:=by
    rw[yCF,yAa,yAa,RA xs a3,b6.1,a4]
   have hvr:aK c (cur.toList.take ((xs++ys).flatMap PD.cells).length) ((xs++ys).flatMap PD.cells):=by
    rw[hcl,g7,yCO,yCF];exact aK.append ⟨by rw[RA xs a3,a4],a7⟩ b6
   have hcs:((xs++ys).flatMap PD.cells).length<=cur.size:=by
    rw[hcl];have:=yAP List.length g7;simp at this ⊢;omega
   have hbk:∀b,aW (.slice (some ⟨c.w.heap.size,0,none⟩) 0 C)=some b->c.w.heap.size<=b:=λb hb=>Bb
   refine⟨_,w',r,c.push w' (.slice (some ⟨c.w.heap.size,0,none⟩) 0 C) (.row e i.size 0 ((xs++ys).flatMap PD.cells)),rfl,rfl,?_,Nx.push hs g1 hbk,?_,?_⟩
   .refine Sr.push hs g1 (λb hb=>⟨hbk b hb,?_⟩) ⟨_,C,cur,rfl,g2,g3,g5,hpos,hcs,hvr,g6⟩;simp[aW]at hb;subst hb;exact fX g2
   .refine .eB _ _ _ _ _ _ _ ⟨.inr rfl,λe' kO v' cs hq=>?_⟩ g4 g5;exact jq
   .exact bh
 ·
  rename_i id ver off n sz;split at h
  rotate_left
  .cases h
  rename_i hc;obtain⟨hfl,rfl,hmax,hby⟩:=hc;split at h
  rotate_left
  .cases h
  rename_i e' kO fH cs hq;split at h
  rotate_left
  .cases h
  rename_i hc;obtain⟨rfl,rfl,rfl⟩:=hc;obtain⟨b,cap,rfl,hp,h1,h2⟩:=hvs.O8;obtain⟨_,C,hr,hCo⟩:=(hp.2 _ _ _ cs hq).2 rfl;have hbase:=hs.row id _ _ _ cs hp.1 hq;obtain⟨b',C',cur,e1,e2,e3,e4,e5,e6,e7,e8⟩:=hbase;rw[hr]at e1;simp only[yBG,yAb,yBt,yAV,yBM]at e1;obtain⟨rfl,rfl⟩:=e1;split at h
  ·
   rename_i hin;simp only[yAb,yAc]at h;obtain⟨rfl,rfl⟩:=h;have hroom:n+ys.length<=cap:=by
    have:(n+ys.length)*i.size<=cap*i.size:=ym;exact Nat.le_of_mul_le_mul_right this hpos
   obtain⟨w',hst,hs',hn'⟩:=aB5 (P:=P) (fl:=fl) hs hp.1 hq hr b6 b4 (off:=off+n*i.size) (by rw[<-b6.1,hly];rw[yBs]at hin;omega) hfl;refine⟨.slice (some ⟨b,off,none⟩) (n+ys.length) cap,w',?_,_,rfl,rfl,hs',hn',?_,λi hi=>.inl hi⟩
   .rw[hS.room b off n cap hroom,hst];rfl
   .exact .eB _ _ _ _ _ _ _ (hp.nV hn'.toV) hroom h2
  .split at h
   rotate_left
   .cases h
   rename_i hc;obtain⟨rfl,hn⟩:=hc;simp only[yAb,yAc]at h;obtain⟨rfl,rfl⟩:=h;have hcapC:cap=C:=Nat.eq_of_mul_eq_mul_right hpos ym;subst hcapC;have hyp:ys.length≠0:=λh0=>by
    rename_i hin;rw[h0,yCc,yAp]at hin;omega
   by_cases hroom:n+ys.length<=cap
   .have hfit:cs.length+fly.length<=cur.size:=by
     rw[e3,hly,<-hn,<-yBs];exact yBU _ hroom
    have hst:=yDz (P:=P) b (0+n*i.size) _ fly 0 cur c.w e2 ym b4;simp only[yCc,yAp]at hst;have hrun:=hS.room b 0 n cap hroom;rw[yAp,hst]at hrun;have hk:∀k,k<c.w.heap.size->aW (c.ρ id)≠some k->(c.w.setRow b (List.take (n*i.size) cur.toList++fly++List.drop (n*i.size+fly.length) cur.toList).toArray).heap[k]?=c.w.heap[k]?:=
     λk _ hk=>yCk _ _ _ _ (λh=>hk (by rw[hr,h];rfl))
    have hcr:(List.take (n*i.size) cur.toList++fly++List.drop (n*i.size+fly.length) cur.toList).length=cur.size:=zc;have hall:∃b0 C0 G5,c.ρ id=.slice (some ⟨b0,0,none⟩) 0 C0/\(c.w.setRow b (List.take (n*i.size) cur.toList++fly++List.drop (n*i.size+fly.length) cur.toList).toArray).heap[b0]?=some (.cells G5 e' (0,0))/\G5.size=C0*i.size/\C0<=maxLen/\0<i.size /\
      (cs++ys.flatMap PD.cells).length<=G5.size/\aK c (G5.toList.take (cs++ys.flatMap PD.cells).length) (cs++ys.flatMap PD.cells)/\∀v∈G5.toList,v.oneCell'=true:=by
     refine⟨b,cap,_,hr,yCP _ _ cur _ e' (0,0) e2,by simpa using hcr.trans e3,e4,hpos,?_,?_,ZD e8 b4 _ _⟩
     .rw[yAa,<-b6.1,yCN,hcr];exact hfit
     .show aK c (List.take _ (List.take (n*i.size) cur.toList++fly++List.drop (n*i.size+fly.length) cur.toList)) _
      rw[show(cs++ys.flatMap PD.cells).length=(List.take (n*i.size) cur.toList++fly).length by
       rw[yAa,yAa,b6.1,yAt,hn];have:cs.length<=cur.toList.length:=by simpa using e6
       omega]
      rw[yCO,hn];exact e7.append b6
    refine⟨.slice (some ⟨b,0,none⟩) (n+ys.length) cap,_,hrun,c.put _ id (c.ρ id) (.row e' i.size (fH+1) (cs++ys.flatMap PD.cells)),rfl,rfl,Sr.putRow hs hp.1 hq (Nat.le_succ _) (λh=>rfl) ⟨rfl,rfl,rfl,yo⟩ hk (.inl rfl) hall,
     Nx.putRow hs hp.1 hq hfl (Nat.le_succ _) (λh=>rfl) ⟨rfl,rfl,rfl,yo⟩ hk (.inl rfl),?_,λi hi=>.inl hi⟩
    refine .eB _ _ _ _ _ _ _ ⟨hp.1,λe0 MY v1 UX hq1=>?_⟩ hroom h2;rw[eZ (hs.aZ id hp.1)]at hq1;simp only[yAb,U.row.injEq]at hq1;obtain⟨rfl,rfl,rfl,rfl⟩:=hq1;exact⟨yAk _,λ_=>⟨rfl,cap,by rw[nW];exact hr,yo⟩⟩
   .have hcut:(cur.toList.take cs.length).length=n*i.size:=by
     rw[yAt,<-hn];have:n*i.size<=cur.toList.length:=by rw[hn];simpa using e6
     omega
    obtain⟨C2,aTH,w',r,g1,g2,g3,g4,g5,g6,rest,g7⟩:=hS.grow (yCE hyp) (some ⟨b,0,none⟩) n cap (cur.toList.take cs.length) (λh=>zk) hcut (λj v hj=>by
      refine⟨_,rfl,?_⟩;rw[KE];simp only[World.cell?,e2];rw[yAv]at hj;split at hj
      .simpa using hj
      .cases hj) (λv hv=>e8 v (yAy hv)) ym hmax hby
    have hbk:∀b0,aW (.slice (some ⟨c.w.heap.size,0,none⟩) 0 C2)=some b0->c.w.heap.size<=b0:=λb hb=>Bb
    have hlen:(cs++ys.flatMap PD.cells).length=(cur.toList.take cs.length++fly).length:=by rw[yAa,yAa,<-b6.1,hcut,hn]
    have hall:∃b0 C0 G5,Value.slice (some ⟨c.w.heap.size,0,none⟩) 0 C2=.slice (some ⟨b0,0,none⟩) 0 C0/\w'.heap[b0]?=some (.cells G5 e' (0,0))/\G5.size=C0*i.size/\C0<=maxLen/\0<i.size /\
      (cs++ys.flatMap PD.cells).length<=G5.size/\aK c (G5.toList.take (cs++ys.flatMap PD.cells).length) (cs++ys.flatMap PD.cells)/\∀v∈G5.toList,v.oneCell'=true:=by
     refine⟨c.w.heap.size,C2,aTH,rfl,g2,g3,g5,hpos,?_,?_,g6⟩
     .rw[hlen];have:=yAP List.length g7;simp only[yCf,yAa]at this ⊢;omega
     .rw[hlen,g7,yCO];exact e7.append b6
    have hk:∀k,k<c.w.heap.size->aW (c.ρ id)≠some k->w'.heap[k]?=c.w.heap[k]?:=λk hk _=>g1.block k hk yo
    have h0:w'.os=c.w.os/\w'.tape=c.w.tape/\w'.output=c.w.output/\c.w.heap.size<=w'.heap.size:=⟨g1.os,g1.tape,g1.output,g1.size⟩;refine⟨_,w',r,c.put w' id (.slice (some ⟨c.w.heap.size,0,none⟩) 0 C2) (.row e' i.size (fH+1) (cs++ys.flatMap PD.cells)),rfl,rfl,Sr.putRow hs hp.1 hq (Nat.le_succ _) (λh=>ym) h0 hk (.inr hbk) hall,
     Nx.putRow hs hp.1 hq hfl (Nat.le_succ _) (λh=>ym) h0 hk (.inr hbk),?_,λi hi=>.inl hi⟩
    refine .eB _ _ _ _ _ _ _ ⟨hp.1,λe0 MY v1 UX hq1=>?_⟩ g4 g5;rw[eZ (hs.aZ id hp.1)]at hq1;simp only[yAb,U.row.injEq]at hq1;obtain⟨rfl,rfl,rfl,rfl⟩:=hq1;exact⟨yAk _,λ_=>⟨rfl,C2,nW,yo⟩⟩
 .cases h
theorem aTy(hs:Sr c){fn:Nat}{t:TypeId}{s x p:PD}{σ':Dp}(h:nO P fn fl c.σ t s x=some (p,σ')){vs vx:Value}(hvs:VR c vs s)(hvx:VR c vx x)(ty:TypeId) :
  ∃v w',(Builtin.append_ #[t,t] ty #[vs,vx]).run P c.w=.ok v w'/\Leaves fl c p σ' v w':=by
 refine aKl hs h hvs λe i z sz' ys hu hw hi hz hzs hpos hz1 RE=>?_
 obtain⟨B,cx,fly,rfl,b1,b2,b3,b4,b5,b6⟩:=aKi hs hw hvx;have hly:fly.length=ys.length*i.size:=by
  rcases RE with h0|h0
  .rw[b3,h0];simp
  .rw[b3,h0]
 refine⟨fly,hly,b4,b6,λh0 A n cap hn=>?_,λhm A n cap flx hA hlx hx RB hcap hmax hby=>aTF hu hi hz hzs hpos hz1 hA hlx hx hly b5 RB b4 hm hcap hmax hby,λb off n cap hroom=>aTG hu hi hly b5 hroom⟩;have hfy:fly=[]:=yAf (by rw[hly,h0];simp);subst hfy;have hfy:(Builtin.firstCells i.size 0 (.slice B 0 cx)).run P c.w=.ok #[] c.w:=by
  cases B<;>simp[Builtin.firstCells,loadCells,loadCellsFrom]
 rw[h0];exact qi
theorem aTI{w:World}{t u ty e:TypeId}{i:TypeInfo}(hu:P.underlying t=some (.slice e))(hs:P.underlying u=some .string)(hi:P.info? e=some i)(hz:i.zero=some (.int .u8 0))(hsz:i.size=1)(hby:i.bytes=1)(l:List UInt8) :
  aKk P w t u ty e i (.string ⟨l.toArray⟩) l.length (l.map λb=>.int .u8 b.toNat):=by
 have hsl:(ByteArray.mk l.toArray).size=l.length:=Aj;have hcl:Lib.strCells ⟨l.toArray⟩=l.map λb=>Value.int .u8 b.toNat:=by simp[Lib.strCells]
 have hone:∀v∈l.map (λb=>Value.int .u8 b.toNat),v.oneCell'=true:=λv hv=>by
  exact jm
 have hz0:∀v∈(Value.int IntKind.u8 0).cells.toList,v.oneCell'=true:=λv hv=>by
  have:v=.int .u8 0:=by simpa [Value.cells]using hv
  rw[this];rfl
 refine⟨λh0 A n cap hn=>(aKm hu hs hi hz hsz hby l).none_ h0 A n cap hn,λhm A n cap flx hA hlx hx RB hcap hmax hb=>?_,λb off n cap hroom=>?_⟩
 .have fin:∀old,old<n+l.length->w.grownBy (w.drew.alloc (.cells (flx.toArray++(l.map λb=>Value.int .u8 b.toNat).toArray++Builtin.zeroCells (Value.int .u8 0).cells (grownCap w (n+l.length) old e-(n+l.length))) e)) none /\
    (w.drew.alloc (.cells (flx.toArray++(l.map λb=>Value.int .u8 b.toNat).toArray++Builtin.zeroCells (Value.int .u8 0).cells (grownCap w (n+l.length) old e-(n+l.length))) e)).heap[w.heap.size]?=some (.cells (flx.toArray++(l.map λb=>Value.int .u8 b.toNat).toArray++Builtin.zeroCells (Value.int .u8 0).cells (grownCap w (n+l.length) old e-(n+l.length))) e (0,0)) /\
    (flx.toArray++(l.map λb=>Value.int .u8 b.toNat).toArray++Builtin.zeroCells (Value.int .u8 0).cells (grownCap w (n+l.length) old e-(n+l.length))).size=grownCap w (n+l.length) old e*i.size/\n+l.length<=grownCap w (n+l.length) old e/\grownCap w (n+l.length) old e<=maxLen /\
    (∀v∈(flx.toArray++(l.map λb=>Value.int .u8 b.toNat).toArray++Builtin.zeroCells (Value.int .u8 0).cells (grownCap w (n+l.length) old e-(n+l.length))).toList,v.oneCell'=true)/\∃rest,(flx.toArray++(l.map λb=>Value.int .u8 b.toNat).toArray++Builtin.zeroCells (Value.int .u8 0).cells (grownCap w (n+l.length) old e-(n+l.length))).toList=flx++(l.map λb=>Value.int .u8 b.toNat)++rest:=by
   intro old ho;have hge:=yDj w (n+l.length) old e;have hcm:grownCap w (n+l.length) old e<=maxLen:=yDk w (n+l.length) old e hmax;have hz1:(Value.int IntKind.u8 0).cells.size=1:=rfl;refine⟨⟨rfl,rfl,rfl,yo,λk hk _=>yDx w.drew _ hk⟩,yBL w.drew _,?_,hge,hcm,?_,_,by simp only[yCM];rfl⟩
   .rw[hsz]at hlx ⊢;simp only[Array.size_append,yCN,size_zeroCells,hz1,hlx,yAe];omega
   .intro v hv;simp only[yCM,yBv]at hv;rcases hv with(hv|hv)|hv
    .exact RB v hv
    .exact hone v hv
    .exact aKj hz0 yx _ v hv
  cases A with
  |none=>
   obtain⟨rfl,rfl⟩:=hA rfl;have RD:flx=[]:=yAf Df;subst RD;have hr:=run_append_nil_string (P:=P) w t u ty e i (.int .u8 0) hu hs hi hz ⟨l.toArray⟩ (by rw[hsl];omega) Bc (by rw[hby,hsl];rw[hby]at hb;omega);have e1:((ByteArray.mk l.toArray).data.map λb=>Value.int .u8 b.toNat)=(l.map λb=>Value.int .u8 b.toNat).toArray:=yo;rw[hsl,e1]at hr;exact ot
  |some ad=>
   have holds:∀(j:Nat) (u:Value),flx[j]?=some u->w.cell? (ad.add j)=some u:=λj u hj=>by
    obtain⟨ZC,e',h9⟩:=hx j u hj;exact ji
   have hr:=Lib.run_append_grow_string (P:=P) w t u ty e i (.int .u8 0) hu hs hi hz ad n cap flx hlx holds ⟨l.toArray⟩ ym Bc (by rw[hby,hsl];exact yDy ym (by rw[hby]at hb;omega));rw[hsl,hcl]at hr;exact⟨_,_,_,hr,fin cap hcap⟩
 .have hf:=Lib.run_firstCells_string (P:=P) w i.size ⟨l.toArray⟩;rw[hsl,hcl]at hf;simp[Builtin.append_,yAN hu,yAN hs,sizeOf,typeInfo,hi,Builtin.lenOf,hsl,hroom,hf,KE]
theorem aTA(hs:Sr c){fn:Nat}{t u:TypeId}{s p:PD}{l:Dr}{σ':Dp}(hst:P.underlying u=some .string)(hb:xT P t=true)(h:nO P fn fl c.σ t s (KF l)=some (p,σ')){vs:Value}(hvs:VR c vs s)(ty:TypeId) :
  ∃v w',(Builtin.append_ #[t,u] ty #[vs,.string ⟨l.toArray⟩]).run P c.w=.ok v w'/\Leaves fl c p σ' v w':=by
 refine aKl hs h hvs λe i z sz' ys hu hw hi hz hzs hpos hz1 RE=>?_
 simp only[KF,UU,yAb,yAc]at hw;obtain⟨_,rfl⟩:=hw;simp only[xT,hu,hi,hz]at hb;split at hb
 rotate_left
 .cases hb
 rename_i heq;simp only[yAb]at heq;subst heq;simp only[yAr,yBI]at hb;refine⟨l.map λb=>.int .u8 b.toNat,by simp[hb.1],λv hv=>?_,?_,?_⟩
 .exact jm
 .rw[TZ];refine⟨yo,λj v d h1 h2=>?_⟩;exact je
 .rw[yAe];exact aTI hu hst hi hz hb.1 hb.2 l
theorem aTJ(n:Nat):(Builtin.zeroCells #[Value.int .u8 0] n).toList=List.replicate n (Value.int .u8 0):=by
 refine List.ext_getElem (by simp[Builtin.zeroCells]) λi h1 h2=>?_
 simp[Builtin.zeroCells,Nat.mod_one]
theorem aTC(hs:Sr c){n:Nat}{t u:TypeId}{s p:PD}{m:Int}{σ':Dp}(hst:P.underlying u=some (.int .i64))(h:OS P n c.σ t s m=some (p,σ')){vs:Value}(hvs:VR c vs s)(ty:TypeId) :
  ∃v w',(Builtin.append_ #[t,u] ty #[vs,.int .i64 m]).run P c.w=.ok v w'/\Leaves fl c p σ' v w':=by
 unfold OS at h;split at h
 rotate_left
 .cases h
 rename_i e sz hu;split at h
 rotate_left
 .cases h
 rename_i hc;obtain⟨hb,_,hm0,jI⟩:=hc;simp only[yAb,yAc]at h;obtain⟨rfl,rfl⟩:=h;obtain⟨k,rfl⟩:∃k:Nat,m=k:=⟨m.toNat,ym⟩;rw[yBk];have hk:0<k:=ym;obtain⟨A,cap,cE,rfl,a1,a2,a3,a4,a5,a6,a7,a8⟩:=hvs.oH;have hcap:cap=0:=by simp only[qW,yAL]at a8;omega
 subst hcap;unfold xT at hb;rw[hu]at hb;simp only at hb;split at hb
 rotate_left
 .cases hb
 rename_i i hi;split at hb
 rotate_left
 .cases hb
 rename_i hz;simp only[yAr,yBI]at hb;obtain⟨hsz,hby⟩:=hb;have hr:=Lib.run_append_grow_zeros (P:=P) c.w t u ty e i (.int .u8 0) .i64 .i64 hu hst hi hz A 0 0 [] (by cases A<;>simp[Builtin.firstCells,loadCells,loadCellsFrom]) k hk ym ym ym (by rw[hby];omega) (by rw[hby];exact yDy ym ym);obtain⟨C,hC⟩:=gn (grownCap c.w (0+k) 0 e);have hge:k<=C:=by have:=yDj c.w (0+k) 0 e;omega
 have hcm:C<=maxLen:=by rw[<-hC];exact yDk c.w (0+k) 0 e zy
 rw[hC,yAp]at hr;have hzc:(Value.int IntKind.u8 0).cells=#[Value.int .u8 0]:=rfl;rw[hzc]at hr;obtain⟨cur,hcur⟩:=gn ((([]:List Value).toArray++Builtin.zeroCells #[Value.int .u8 0] k++Builtin.zeroCells #[Value.int .u8 0] (C-k)));rw[hcur]at hr;have hl:cur.toList=List.replicate k (Value.int .u8 0)++List.replicate (C-k) (Value.int .u8 0):=by
  rw[<-hcur];simp only[yCM,aTJ,yAQ]
 have hcs:cur.size=C*1:=by
  have:=yAP List.length hl;simp only[yCf,yAa,yDl]at this;omega
 have h1:∀v∈cur.toList,v.oneCell'=true:=λv hv=>by
  rw[hl,yBv]at hv;rcases hv with hv|hv<;>rw[yDT hv]<;>rfl
 have mE:c.w.grownBy (c.w.drew.alloc (.cells cur e)) none:=⟨rfl,rfl,rfl,yo,λk hk _=>yDx c.w.drew _ hk⟩;have eJ:(c.w.drew.alloc (.cells cur e)).heap[c.w.heap.size]?=some (.cells cur e (0,0)):=yBL c.w.drew _;have hbk:∀b,aW (.slice (some ⟨c.w.heap.size,0,none⟩) 0 C)=some b->c.w.heap.size<=b:=λb hb=>Bb
 have hvr:aK c (cur.toList.take (List.replicate k (PD.int .u8 0)).length) (List.replicate k (PD.int .u8 0)):=by
  rw[yDl,hl,yCQ (yDl ..)];refine⟨yo,λi v d h1 h2=>?_⟩;rw[yDT (yAE h1),yDT (yAE h2)];exact .int _ _
 refine⟨_,_,hr,c.push _ (.slice (some ⟨c.w.heap.size,0,none⟩) 0 C) (.row e 1 0 (List.replicate k (.int .u8 0))),rfl,rfl,?_,Nx.push hs mE hbk,?_,?_⟩
 .refine Sr.push hs mE (λb hb=>⟨hbk b hb,?_⟩) ⟨_,C,cur,rfl,eJ,hcs,hcm,ym,by rw[yDl];omega,hvr,h1⟩;simp[aW]at hb;subst hb;exact fX eJ
 .refine .eB _ _ _ _ _ _ _ ⟨.inr rfl,λe' kO v' cs hq=>?_⟩ ym hcm;exact jq
 .exact bh
theorem aTt(hs:Sr c){t:TypeId}{s:PD}{σ':Dp}(h:aFa P fl c.σ t s=some σ'){vs:Value}(hvs:VR c vs s)(ty:TypeId) :
  ∃v w',(Builtin.clear_ #[t] ty #[vs]).run P c.w=.ok v w'/\Leaves fl c (.aI []) σ' v w':=by
 unfold aFa at h;split at h
 rotate_left
 .cases h
 rename_i e hu;split at h
 .simp only[yAb]at h;subst h;obtain⟨A,cap,flx,rfl,_⟩:=hvs.oH;refine⟨.tuple #[],c.w,?_,c,rfl,rfl,hs,.refl _ _,.aI [] [] rfl yo,λ_ h=>.inl h⟩;cases A<;>simp[Builtin.clear_,yAN hu]
 .rename_i id ver off n sz;split at h
  rotate_left
  .cases h
  rename_i e' kO fH cs m z hq hm hz;split at h
  rotate_left
  .cases h
  rename_i hc;obtain⟨hfl,rfl,rfl,rfl,hzl,hzp,hle,hpos⟩:=hc;simp only[yAb]at h;subst h;obtain⟨b,cap,rfl,hp,h1,h2⟩:=hvs.O8;obtain⟨_,C,hr,hCo⟩:=(hp.2 _ _ _ cs hq).2 rfl;obtain⟨zv,i,hi,hzv,hzr⟩:=O2 (c:=c) hz;have hcv:=aKn (c:=c) hzr hzl hpos n;have qY:=aKo (c:=c) hzr hzl hpos hzp n;have hzs:zv.cells.size=m:=by have:=hzr.cells.1;simp at this;omega
  have hzc:madeCells zv.cells (n*m)=Builtin.zeroCells zv.cells n:=by rw[<-hzs];rfl
  rw[hzc]at hcv qY;obtain⟨w',hst,hs',hn'⟩:=aB5 (P:=P) (fl:=fl) hs hp.1 hq hr hcv qY (off:=off) (by rw[aKp];exact hle) hfl;have RF:(zeroValue e).run P c.w=.ok zv c.w:=Ar
  by_cases h0:n=0
  .subst h0;refine⟨.tuple #[],c.w,by simp[Builtin.clear_,yAN hu],c,rfl,?_,hs,.refl _ _,.aI [] [] rfl yo,λ_ h=>.inl h⟩;have e1:s5 z m 0=[]:=by simp[s5]
   have e2:jG cs off []=cs:=by simp[jG]
   rw[e1,e2];refine yBS λj=>?_
   rw[yCA];split
   .rename_i hj;subst hj;rw[yAJ (yA.1 hq).1,hq]
   .rfl
  .refine⟨.tuple #[],w',?_,_,rfl,rfl,hs',hn',.aI [] [] rfl yo,λi hi=>.inl hi⟩;obtain⟨n,rfl⟩:∃k,n=k+1:=⟨n-1,ym⟩;simp[Builtin.clear_,yAN hu,RF,hst]
 .cases h
theorem aTK(hs:Sr c){id:Nat}{q q':PD}(hd:c.D id)(hq:c.σ[id]?=some (.box q)){b:Nat}(hr:c.ρ id=.pointer (some ⟨b,0,none⟩)){vs:Ds}{ws:Dq}(hv:aK c vs ws)
  (hw:ws.all PD.plain=true) {off:Nat} (lM:q.setCells off ws=some q') (hfl:fl<=id) :
  ∃w',(storeCells ⟨b,off,none⟩ vs).run P c.w=.ok () w'/\Sr (c.put w' id (c.ρ id) (.box q'))/\Nx fl c (c.put w' id (c.ρ id) (.box q')):=by
 obtain⟨b',cs,T,e1,e2,e3,e4⟩:=hs.box id q hd hq;rw[hr]at e1;simp only[yBN,yAb,yBt,yAV]at e1;subst e1;obtain⟨hle,hcq⟩:=aKq lM hw;have lQ:=aK.G3 hv hw;have hvl:vs.length=ws.length:=hv.1;have hcl:cs.toList.length=q.cells.length:=e3.1;have hst:=yDz (P:=P) b off T vs 0 cs c.w e2 (by simp at hcl;omega) lQ;simp only[yCc]at hst;refine⟨_,hst,?_,?_⟩
 .refine Sr.J4 (T:=T) hs hd hq hr ⟨rfl,rfl,rfl,yo⟩ (λk hk=>yCk _ _ _ _ hk) (yCP _ _ cs _ T (0,0) e2) ?_ ?_
  .rw[hcq];exact e3.fill hv lQ off hle
  .refine⟨ZD e4.1 lQ off (off+vs.length),λt ds e=>?_⟩;exact e4.2 t _ (aKr lM hw e).choose_spec
 .exact su
theorem aFb(hs:Sr c){st:TypeId}{x:PD}{sz:Nat}{ys:Dq}(h:aFc P c.σ st x=some (sz,ys)){vx:Value}(hx:VR c vx x){size:Nat}(hsz:ys.length=0\/sz=size)(k:Nat)(hk:k<=ys.length) :
  ∃cells:List Value,(Builtin.firstCells size k vx).run P c.w=.ok cells.toArray c.w/\(Builtin.lenOf vx).run P c.w=.ok ys.length c.w/\aK c cells ((ys.take k).flatMap PD.cells)/\∀v∈cells,v.oneCell'=true:=by
 have hflat:∀l:List UInt8,(l.map λb=>PD.int .u8 b.toNat).flatMap PD.cells=l.map λb=>PD.int .u8 b.toNat:=TZ
 unfold aFc at h;split at h
 .rename_i l;split at h
  .simp only[yAb,yAc]at h;obtain⟨rfl,rfl⟩:=h;rw[hx.sZ];refine⟨(l.take k).map λb=>.int .u8 b.toNat,?_,?_,?_,?_⟩
   .simp[Builtin.firstCells,aKs]
   .simp[Builtin.lenOf,ByteArray.size]
   .rw[<-yCG,hflat];refine⟨yo,λi v d h1 h2=>?_⟩;rw[yAo]at h1 h2;cases hj:(l.take k)[i]? with
    |none=>rw[hj]at h1;cases h1
    |some b=>
     rw[hj]at h1 h2;simp only[yAC,yAb]at h1 h2;subst h1 h2;exact .int _ _
   .intro v hv;exact jm
  .cases h
 .obtain⟨B,cap,fly,rfl,b1,b2,b3,b4,b5,b6⟩:=aKi hs h hx;have hly:fly.length=ys.length*size:=by
   rcases hsz with h0|h0
   .rw[b3,h0];simp
   .rw[b3,h0]
  have hkl:(fly.take (k*size)).length=k*size:=by
   rw[yAt,hly];have:k*size<=ys.length*size:=yBU _ hk;omega
  refine⟨fly.take (k*size),?_,by simp[Builtin.lenOf],?_,λv hv=>b4 v (yAy hv)⟩
  .cases B with
   |none=>
    have:fly=[]:=by
     cases fly with
     |nil=>rfl
     |cons x xs=>obtain⟨_,e',_⟩:=b5 0 x rfl;cases e'
    exact ql
   |some bd=>
    simp only[Builtin.firstCells];exact UW hkl λj v hj=>by
     rw[yAv]at hj;split at hj
     .obtain⟨ad,e',h9⟩:=b5 j v hj;exact ji
     .cases hj
  .have hs2:∀y∈ys,y.cells.length=size:=λy hy=>by
    have:ys.length≠0:=by intro e;rw[yDU.1 e]at hy;cases hy
    rw[<-hsz.resolve_left this];exact b2 y hy
   rw[aFd _ _ hs2];refine⟨by rw[hkl,yAt,<-b6.1,hly];have:k*size<=ys.length*size:=yBU _ hk;omega,λi v d h1 h2=>?_⟩;rw[yAv]at h1 h2;split at h1
   .rename_i hi;rw[yAJ hi]at h2;exact b6.2 i v d h1 h2
   .cases h1
theorem aTu(hs:Sr c){dt st:TypeId}{d x p:PD}{σ':Dp}(h:aFe P fl c.σ dt st d x=some (p,σ')){vd vx:Value}(hd:VR c vd d)(hx:VR c vx x)(ty:TypeId) :
  ∃v w',(Builtin.copy_ #[dt,st] ty #[vd,vx]).run P c.w=.ok v w'/\Leaves fl c p σ' v w':=by
 unfold aFe at h;split at h
 rotate_left
 .cases h
 rename_i e sz' ys hu hsrc;split at h
 rotate_left
 .cases h
 rename_i sz hsz;obtain⟨i,hi,hisz⟩:=aFf hsz;split at h
 rotate_left
 .cases h
 rename_i hc;have hsize:∀w:World,(sizeOf e).run P w=.ok sz w:=λw=>mF hsz
 split at h
 .simp only[yAb,yAc]at h;obtain⟨rfl,rfl⟩:=h;obtain⟨A,cap,flx,rfl,_⟩:=hd.oH;obtain⟨cells,r1,r2,r3,r4⟩:=aFb hs hsrc hx hc 0 (yAF _);have hce:cells=[]:=yAf (by rw[r3.1];simp);subst hce;refine⟨.int .i64 0,c.w,?_,c,rfl,rfl,hs,.refl _ _,.int _ _,λ_ h=>.inl h⟩;have hm:Nat.min ys.length 0=0:=Nat.min_zero _;cases A<;>simp[Builtin.copy_,yAN hu,r2,hsize,hm,r1,goInt,storeCells]
 .rename_i id off n kO;split at h
  rotate_left
  .cases h
  rename_i hc2;obtain⟨hfl,rfl,hpl⟩:=hc2;split at h
  rotate_left
  .cases h
  rename_i q hq;split at h
  rotate_left
  .cases h
  rename_i q' lM;simp only[yAb,yAc]at h;obtain⟨rfl,rfl⟩:=h;obtain⟨b,cap,rfl,hD,_,hr,h1,h2⟩:=hd.M4;obtain⟨cells,r1,r2,r3,r4⟩:=aFb hs hsrc hx hc (Nat.min ys.length n) (Nat.min_le_left _ _);have htk:ys.take (Nat.min ys.length n)=ys.take n:=by
   exact jc
  rw[htk]at r3;obtain⟨w',hst,hs',hn'⟩:=aTK (P:=P) (fl:=fl) hs hD hq hr r3 hpl lM hfl;exact jo
 .rename_i id ver off n kO;split at h
  rotate_left
  .cases h
  rename_i hc2;obtain⟨hfl,rfl⟩:=hc2;split at h
  rotate_left
  .cases h
  rename_i e' MY fH cs hq;split at h
  rotate_left
  .cases h
  rename_i hc3;obtain⟨rfl,rfl,hle⟩:=hc3;simp only[yAb,yAc]at h;obtain⟨rfl,rfl⟩:=h;obtain⟨b,cap,rfl,hp,h1,h2⟩:=hd.O8;obtain⟨_,C,hr,hCo⟩:=(hp.2 _ _ _ cs hq).2 rfl;obtain⟨cells,r1,r2,r3,r4⟩:=aFb hs hsrc hx hc (Nat.min ys.length n) (Nat.min_le_left _ _);have htk:ys.take (Nat.min ys.length n)=ys.take n:=by
   exact jc
  rw[htk]at r3;obtain⟨w',hst,hs',hn'⟩:=aB5 (P:=P) (fl:=fl) hs hp.1 hq hr r3 r4 hle hfl;exact jo
 .cases h
theorem bytes_beq(a b:List UInt8):(ByteArray.mk a.toArray==ByteArray.mk b.toArray)=(a==b):=by
 have h:(ByteArray.mk a.toArray==ByteArray.mk b.toArray)=(a.toArray==b.toArray):=rfl;rw[h];simp
def ZE(d:TypeDesc)(k:PD):Prop:=(d=.string/\∃s,k=.str s)\/∃k0 n,d=.int k0/\k=.int k0 n
theorem aKt{kt:TypeId}{k:PD}(h:UY P kt k=true):∃d,P.underlying kt=some d/\ZE d k:=by
 unfold UY at h;split at h
 .rename_i s hu;exact⟨_,hu,.inl ⟨rfl,_,rfl⟩⟩
 .rename_i k0 k1 n hu;simp only[yBI]at h;subst h;exact⟨_,hu,.inr ⟨_,_,rfl,rfl⟩⟩
 .cases h
theorem aKu{d:TypeDesc}{k q:PD}(hd:ZE d k){vk vq:Value}(hk:VR c vk k)(hq:VR c vq q){b:Bool}(h:RG k q=some b):Instr.sameNow d vk vq=some b/\(b=true->vk=vq):=by
 rcases hd with⟨rfl,s,rfl⟩ | ⟨k0,n,rfl,rfl⟩
 .rw[hk.sZ];cases q<;>simp only[RG,reduceCtorEq]at h
  rw[hq.sZ];simp only[yAb]at h;subst h;refine⟨by simp only[Instr.sameNow,bytes_beq],λh=>?_⟩;rw[eq_of_beq h]
 .rw[hk.pR];cases q<;>simp only[RG,reduceCtorEq]at h
  rw[hq.pR];split at h
  .rename_i hkk;subst hkk;simp only[yAb]at h;subst h;refine⟨by simp[Instr.sameNow],λh=>?_⟩;rw[eq_of_beq h]
  .cases h
theorem aK.tail{v:Value}{vs:Ds}{d:PD}{ds:Dq}(h:aK c (v::vs) (d::ds)):aK c vs ds:=⟨by have:=h.1;simpa using this,λi u x a b=>h.2 (i+1) u x Bx Bz⟩
theorem ZF{d:TypeDesc}{k:PD}(hd:ZE d k){vk:Value}(hk:VR c vk k):∀(ents:List MapEntry) (ms:List (PD×PD)) (i:Nat) (r:Option (Nat×PD)),aK c (ents.map MapEntry.key) (ms.map Prod.fst)->aK c (ents.map MapEntry.val) (ms.map Prod.snd)->G6 k ms i=some r ->
  match r with
  |some (j,v)=>∃en,i<=j/\ents[j-i]?=some en/\VR c en.val v/\en.key=vk/\Instr.findNow d vk ents i=some (some (j,en.val))
  |none=>Instr.findNow d vk ents i=some none
 | [],[],i,r,_,_,h=>by
   simp only[G6,yAb]at h;subst h;rfl
 | [],_::_,_,_,h,_,_=>by have:=h.1;simp at this
 |_::_,[],_,_,h,_,_=>by have:=h.1;simp at this
 |en::ents,m::ms,i,r,h1,h2,h=>by
  have hk0:VR c en.key m.1:=h1.2 0 _ _ rfl rfl;have fQ:VR c en.val m.2:=h2.2 0 _ _ rfl rfl;unfold G6 at h;split at h
  .rename_i he;simp only[yAb]at h;subst h;obtain⟨q1,q2⟩:=aKu hd hk hk0 he;refine⟨en,yAk _,yo,fQ,(q2 rfl).symm,?_⟩;simp[Instr.findNow,q1]
  .rename_i he;obtain⟨q1,_⟩:=aKu hd hk hk0 he;have ih:=ZF hd hk ents ms (i+1) r h1.tail h2.tail h;cases r with
   |none=>
    simp only at ih ⊢;simp[Instr.findNow,q1,ih]
   |some jv=>
    obtain⟨j,v⟩:=jv;simp only at ih ⊢;obtain⟨en',g1,g2,g3,g4,g5⟩:=ih;refine⟨en',ym,?_,g3,g4,?_⟩
    .rw[show j-i=(j-(i+1))+1 by omega];simpa using g2
    .simp[Instr.findNow,q1,g5]
  .cases h
theorem ZG{w:World}{kt:TypeId}{d:TypeDesc}{k:PD}(hu:P.underlying kt=some d)(hd:ZE d k){vk:Value}(hk:VR c vk k)(e:Bool):(Instr.checkKey e 10000 kt vk).run P w=.ok () w:=by
 rcases hd with⟨rfl,s,rfl⟩ | ⟨k0,n,rfl,rfl⟩
 .rw[hk.sZ];exact qn
 .rw[hk.pR];exact qn
theorem ZH{w:World}{kt:TypeId}{d:TypeDesc}{vk:Value}{l:List MapEntry}{a:Option (Nat×Value)}(hd:P.underlying kt=some d)(h:Instr.findNow d vk l 0=some a):(Instr.findKey kt vk l).run P w=.ok a w:=by
 simp[Instr.findKey,yAN hd,Result.andThen,h]
theorem aB6{w:World}{r:Nat}{es:Array MapEntry}{clock:Nat}(hb:w.heap[r]?=some (.map es clock)):(getObj r).run P w=.ok (.map es clock) w:=by simp[getObj,Sem.run,hb]
theorem aKv{w:World}{r:Nat}{es:Array MapEntry}{clock:Nat}(o:Obj)(hb:w.heap[r]?=some (.map es clock)):(setObj r o).run P w=.ok () (w.putObj r o):=by simp[setObj,Sem.run,hb,World.putObj]
theorem aTL{d:TypeDesc}{k:PD}(hd:ZE d k){vk:Value}(hk:VR c vk k)(w:World):(Instr.keyThatStays vk vk).run P w=.ok vk w:=by
 have:Instr.sameBits 10000 vk vk=true:=by
  rcases hd with⟨rfl,s,rfl⟩ | ⟨k0,n,rfl,rfl⟩
  .rw[hk.sZ];simp only[Instr.sameBits,bytes_beq];simp
  .rw[hk.pR];simp[Instr.sameBits]
 simp[Instr.keyThatStays,this]
theorem aKw(hs:Sr c){id:Nat}{ms:List (PD×PD)}(hq:c.σ[id]?=some (.map ms)){vx:Value}(hx:VR c vx (.fA id)):∃b ents clock,vx=.map (some b)/\c.D id/\c.ρ id=.map (some b)/\c.w.heap[b]?=some (.map ents clock)/\aK c (ents.toList.map MapEntry.key) (ms.map Prod.fst)/\aK c (ents.toList.map MapEntry.val) (ms.map Prod.snd):=by
 obtain⟨b,rfl,hd,_,hr⟩:=hx.aTM;obtain⟨b',ents,clock,e1,e2,e3,e4⟩:=hs.map id ms hd hq;rw[hr]at e1;simp only[Value.map.injEq,yAb]at e1;subst e1;exact⟨b,ents,clock,rfl,hd,hr,e2,e3,e4⟩
theorem aTw(hs:Sr c){t:TypeId}{x k p:PD}{ok:Bool}(h:UZ P c.σ t x k ok=some p){vx vk:Value}(hx:VR c vx x)(hk:VR c vk k):∃v,(Instr.lookup t vx vk ok).run P c.w=.ok v c.w/\VR c v p:=by
 have two:∀ {v:Value} {q:PD} (b:Bool),VR c v q->VR c (if ok then .tuple #[v,.bool b]else v) (if ok then .aI [q,.bool b]else q):=fun {v q} b hv=>by
  cases ok
  .exact hv
  .exact .aI [v,.bool b] [q,.bool b] rfl (λi u d h1 h2=>by
    match i with
    |0=>simp at h1 h2;subst h1;subst h2;exact hv
    |1=>simp at h1 h2;subst h1;subst h2;exact .bool b
    |i+2=>simp at h1)
 unfold UZ at h;split at h
 rotate_left
 .cases h
 rename_i kt e hu;split at h
 rotate_left
 .cases h
 rename_i hki;obtain⟨d,hkt,hd⟩:=aKt hki;split at h
 .rename_i id;split at h
  rotate_left
  .cases h
  rename_i ms hq;obtain⟨b,ents,clock,rfl,_,_,e2,e3,e4⟩:=aKw hs hq hx;split at h
  .rename_i j v hf;simp only[yAb]at h;subst h;obtain⟨en,_,_,g3,_,g5⟩:=ZF hd hk _ _ 0 _ e3 e4 hf;refine⟨_,?_,two true g3⟩;simp[Instr.lookup,yAN hu,aB6 e2,ZG hkt hd hk,ZH hkt g5]
  .rename_i hf;split at h
   .rename_i z hz;simp only[yAb]at h;subst h;obtain⟨zv,i,hi,hzv,hzr⟩:=O2 (c:=c) hz;have g5:=ZF hd hk _ _ 0 _ e3 e4 hf;have RF:(zeroValue e).run P c.w=.ok zv c.w:=Ar;refine⟨_,?_,two false hzr⟩;simp[Instr.lookup,yAN hu,aB6 e2,ZG hkt hd hk,ZH hkt g5,RF]
   .cases h
  .cases h
 .split at h
  .rename_i z hz;simp only[yAb]at h;subst h;have hvx:vx=.map none:=by cases hx;rfl
   subst hvx;obtain⟨zv,i,hi,hzv,hzr⟩:=O2 (c:=c) hz;have RF:(zeroValue e).run P c.w=.ok zv c.w:=Ar;have g5:Instr.findNow d vk [] 0=some none:=rfl;refine⟨_,?_,two false hzr⟩;simp[Instr.lookup,yAN hu,ZG hkt hd hk,ZH hkt g5,RF]
  .cases h
 .cases h
theorem aK.set{vs:Ds}{ds:Dq}(h:aK c vs ds){v:Value}{p:PD}(hv:VR c v p)(j:Nat):aK c (vs.set j v) (ds.set j p):=by
 refine⟨by simp[h.1],λi u d h1 h2=>?_⟩;rw[yCA]at h1 h2;split at h1
 .rename_i e;rw[yAJ e]at h2;split at h1
  .split at h2
   .simp only[yAb]at h1 h2;subst h1;subst h2;exact hv
   .cases h2
  .cases h1
 .rename_i e;rw[yAI e]at h2;exact h.2 i u d h1 h2
theorem aTx(hs:Sr c){t:TypeId}{x k v:PD}{σ':Dp}(h:U0 P fl c.σ t x k v=some σ'){vx vk vv:Value}(hx:VR c vx x)(hk:VR c vk k)(hv:VR c vv v) :
  ∃w',(Instr.mapUpdate t vx vk vv).run P c.w=.ok () w'/\Leaves fl c (.aI []) σ' undef w':=by
 unfold U0 at h;split at h
 rotate_left
 .cases h
 rename_i kt e hu;split at h
 rotate_left
 .cases h
 rename_i hki;obtain⟨d,hkt,hd⟩:=aKt hki;split at h
 rotate_left
 .cases h
 rename_i id;split at h
 rotate_left
 .cases h
 rename_i hfl;split at h
 rotate_left
 .cases h
 rename_i ms hq;obtain⟨b,ents,clock,rfl,hD,hr,e2,e3,e4⟩:=aKw hs hq hx;have hb:aW (c.ρ id)=some b:=Ak;split at h
 .rename_i j v0 hf;simp only[yAb]at h;subst h;obtain⟨en,_,g2,g3,g4,g5⟩:=ZF hd hk _ _ 0 _ e3 e4 hf;simp only[yDf]at g2;subst g4;have g2':ents[j]?=some en:=by simpa using g2
  have hst:(Instr.mapUpdate t (.map (some b)) en.key vv).run P c.w=.ok () (c.w.putObj b (.map (ents.modify j λe=>{ e with key:=en.key,val:=vv }) clock)):=by
   simp[Instr.mapUpdate,yAN hu,aB6 e2,ZG hkt hd hk,ZH hkt g5,g2',aTL hd hk,aKv _ e2]
  have hkeys:((ents.modify j λe=>{ e with key:=en.key,val:=vv }).toList.map MapEntry.key)=(ents.toList.map MapEntry.key).set j en.key:=by
   exact dw
  have hvals:((ents.modify j λe=>{ e with key:=en.key,val:=vv }).toList.map MapEntry.val)=(ents.toList.map MapEntry.val).set j vv:=by
   exact dw
  refine⟨_,hst,_,rfl,rfl,Sr.EY (o':=.map (ms.set j (k,v))) hs hD hq trivial trivial hb e2 yo ⟨⟨_,_,rfl,?_,?_⟩,hr⟩,Nx.EY hs hD hq trivial trivial hb hfl e2 yo,ZI _,λi hi=>.inl hi⟩
  .rw[hkeys,List.map_set];exact e3.set hk j
  .rw[hvals,List.map_set];exact e4.set hv j
 .rename_i hf;simp only[yAb]at h;subst h;have g5:=ZF hd hk _ _ 0 _ e3 e4 hf;have hst:(Instr.mapUpdate t (.map (some b)) vk vv).run P c.w=.ok () (c.w.putObj b (.map (ents.push { key:=vk,val:=vv,born:=clock }) (clock+1))):=by
   simp[Instr.mapUpdate,yAN hu,aB6 e2,ZG hkt hd hk,ZH hkt g5,aKv _ e2]
  have one:∀ {v:Value} {p:PD},VR c v p->aK c [v] [p]:=λh=>⟨rfl,λi u d h1 h2=>by
   match i with
   |0=>simp at h1 h2;subst h1;subst h2;exact h
   |i+1=>simp at h1⟩
  refine⟨_,hst,_,rfl,rfl,Sr.EY (o':=.map (ms++[(k,v)])) hs hD hq trivial trivial hb e2 yo ⟨⟨_,_,rfl,?_,?_⟩,hr⟩,Nx.EY hs hD hq trivial trivial hb hfl e2 yo,ZI _,λi hi=>.inl hi⟩
  .simp only[Array.toList_push,yAH];exact e3.append (one hk)
  .simp only[Array.toList_push,yAH];exact e4.append (one hv)
 .cases h
theorem aTv(hs:Sr c)(t:TypeId):∃v w',(Instr.makeMap t none).run P c.w=.ok v w'/\Leaves fl c (.fA c.σ.length) (c.σ++[.map []]) v w':=by
 have hbk:∀b,aW (.map (some c.w.heap.size))=some b->c.w.heap.size<=b/\b<(c.w.alloc (.map #[] 0)).heap.size:=λb hb=>by
  simp[aW]at hb;subst hb;simp
 refine⟨.map (some c.w.heap.size),c.w.alloc (.map #[] 0),rfl,c.push (c.w.alloc (.map #[] 0)) (.map (some c.w.heap.size)) (.map []),rfl,rfl,?_,Nx.push hs (KB _ _) (λb hb=>(hbk b hb).1),?_,?_⟩
 .exact Sr.push hs (KB _ _) hbk ⟨_,#[],0,rfl,yBL _ _,⟨rfl,yo⟩,⟨rfl,yo⟩⟩
 .exact .fA _ _ (.inr rfl) (by rw[fS.1];trivial) fS.2.1
 .exact bh
end
end
section
open Go.RowKit
section
variable{P:Program}{c:Cx}{fl:Nat}
def aKh(P:Program)(o:Oper)(a:Act)(w:World)(v:Value)(w':World):Prop:=
 (execOp a.eval o).run P w=.ok (.value v) w'\/((execOp a.eval o).run P w=.ok .skip w'/\v=undef)
theorem aTl(hs:Sr c)(hX:Xw fl c){a:Act}{fr:Dq}(hf:FR c a fr){o:Oper}{p:PD}{σ':Dp}(h:cO P fl fr c.σ o.op=some (p,σ')) :
  ∃v w',aKh P o a c.w v w'/\Leaves fl c p σ' v w':=by
 obtain⟨dst,op,ty,pos,after,guard⟩:=o;simp only at h;unfold cO at h;split at h
 .rename_i t x;split at h
  .rename_i pa h1;split at h
   .rename_i q hq;simp only[yAb,yAc]at h;obtain⟨rfl,rfl⟩:=h;obtain⟨v,r,hv⟩:=aJZ hs hq (cY hf h1);exact ir
   .exact ah
  .exact ah
 .rename_i t x y;split at h
  .rename_i pa pb h1 h2;split at h
   .rename_i s' hs';simp only[yAb,yAc]at h;obtain⟨rfl,rfl⟩:=h;obtain⟨w',r,hl⟩:=aTm hs hs' (cY hf h1) (cY hf h2);exact⟨undef,w',.inr ⟨Cz,rfl⟩,hl⟩
   .exact ah
  .exact ah
 .rename_i t;split at h
  .rename_i q hq;split at h
   .rename_i hpl;simp only[yAb,yAc]at h;obtain⟨rfl,rfl⟩:=h;obtain⟨zv,i,hi,hzv,hzr⟩:=O2 (c:=c) hq;obtain⟨r,hl⟩:=aE0 (P:=P) (fl:=fl) hs (aBV hq hi hzv t) (aK.G3 hzr.cells hpl) t (λt' ds e=>aBW hzr e);refine⟨_,_,.inl ?_,hl⟩;simp[execOp,Instr.alloc,zeroValue,typeInfo,hi,hzv,r]
   .exact ah
  .exact ah
 .rename_i t x;split at h
  .rename_i q hq;split at h
   .rename_i hpl;simp only[yAb,yAc]at h;obtain⟨rfl,rfl⟩:=h;obtain⟨r,hl⟩:=aE0 (P:=P) (fl:=fl) (p:=nP t q) hs (by rw[aTn];exact(cY hf hq).cells) (aK.G3 (cY hf hq).cells hpl) t (λt' ds e=>aTo (cY hf hq) e);refine⟨_,_,.inl ?_,hl⟩;simp[execOp,Instr.box,r]
   .exact ah
  .exact ah
 .rename_i t len parts;split at h
  .rename_i ps h1;split at h
   .rename_i q hq;simp only[yAb,yAc]at h;obtain⟨rfl,rfl⟩:=h;obtain⟨a1,a2⟩:=aB2 hf h1;obtain⟨v,w',r,hl⟩:=aTp (fl:=fl) hs (vparts:=parts.toList.map λq=>(q.1,a.eval q.2)) hq (by simpa using a1) (λi jv jp h3 h4=>by
     rw[yAo]at h4;cases hx:ps[i]? with
     |none=>rw[hx]at h4;simp at h4
     |some x=>
      rw[hx]at h4;simp only[yAC,yAb]at h4;subst h4;exact⟨(a2 i jv x h3 hx).1,(a2 i jv x h3 hx).2.strip⟩)
    refine⟨v,w',.inl ?_,hl⟩;have e:(Array.map (λx=>match x with|(i,x)=>(i,a.eval x)) parts)=(parts.toList.map λq=>(q.1,a.eval q.2)).toArray:=Ag;simp only[execOp,yAW];rw[e,r];simp
   .exact ah
  .exact ah
 .rename_i s d x;split at h
  .split at h
   .rename_i q hq;split at h
    .rename_i r hr;simp only[yAb,yAc]at h;obtain⟨rfl,rfl⟩:=h;obtain⟨v,w',r,hl⟩:=aTq (fl:=fl) hs hr (cY hf hq);exact⟨v,w',.inl Cz,hl⟩
    .split at h
     .rename_i r hr;simp only[yAb,yAc]at h;obtain⟨rfl,rfl⟩:=h;obtain⟨v,r,hv⟩:=aTr hs hr (cY hf hq);exact ir
     .exact ah
   .exact ah
  .exact ah
 .rename_i t l k;split at h
  .rename_i e l' k' hu h1 h2;have hl:∃kl,a.eval l=.int kl (l':Int):=by
    cases hx:aT fr l with
    |none=>rw[hx]at h1;cases h1
    |some q=>
     rw[hx]at h1;obtain⟨kl,zl,e1,e2,e3⟩:=Q9 h1 (cY hf hx);exact⟨kl,by rw[e1,<-e3];congr 1;omega⟩
   have hk:∃kk,a.eval k=.int kk (k':Int):=by
    cases hx:aT fr k with
    |none=>rw[hx]at h2;cases h2
    |some q=>
     rw[hx]at h2;obtain⟨kl,zl,e1,e2,e3⟩:=Q9 h2 (cY hf hx);exact⟨kl,by rw[e1,<-e3];congr 1;omega⟩
   obtain⟨kl,hl⟩:=hl;obtain⟨kk,hk⟩:=hk;obtain⟨v,w',r,hlv⟩:=aTs (fl:=fl) hs hu h kl kk;exact⟨v,w',.inl (by simp[execOp,hl,hk,r]),hlv⟩
  .exact ah
 .rename_i args ts;split at h
  .rename_i s t h1 h2;split at h
   .rename_i s' hs';simp only[yAb,yAc]at h;obtain⟨rfl,rfl⟩:=h;have hv:=pL hf h1;have hvl:=hv.1;obtain⟨args⟩:=args;obtain⟨ts⟩:=ts;simp only at h1 hv hvl h2
    match args,hv,hvl with
    | [x1],hv,_=>
      subst h2;obtain⟨v,w',r,hl⟩:=aTt (fl:=fl) hs hs' (hv.2 0 _ _ rfl rfl) ty;exact cq
   .exact ah
  .exact ah
 .rename_i args ts;split at h
  .rename_i d x t t' h1 h2;have hv:=pL hf h1;have hvl:=hv.1;obtain⟨args⟩:=args;obtain⟨ts⟩:=ts;simp only at h1 hv hvl h2
   match args,hv,hvl with
   | [x1,x2],hv,_=>
     subst h2;obtain⟨v,w',r,hl⟩:=aTu (fl:=fl) hs h (hv.2 0 _ _ rfl rfl) (hv.2 1 _ _ rfl rfl) ty;exact cq
  .exact ah
 .rename_i t;split at h
  .simp only[yAb,yAc]at h;obtain⟨rfl,rfl⟩:=h;obtain⟨v,w',r,hl⟩:=aTv (P:=P) (fl:=fl) hs t;exact⟨v,w',.inl Cz,hl⟩
  .exact ah
 .rename_i t x k ok;split at h
  .rename_i m k' h1 h2;split at h
   .rename_i q hq;simp only[yAb,yAc]at h;obtain⟨rfl,rfl⟩:=h;obtain⟨v,r,hv⟩:=aTw hs hq (cY hf h1) (cY hf h2);exact ir
   .exact ah
  .exact ah
 .rename_i t x k v;split at h
  .rename_i m k' v' h1 h2 h3;split at h
   .rename_i s' hs';simp only[yAb,yAc]at h;obtain⟨rfl,rfl⟩:=h;obtain⟨w',r,hl⟩:=aTx (fl:=fl) hs hs' (cY hf h1) (cY hf h2) (cY hf h3);exact⟨undef,w',.inr ⟨Cz,rfl⟩,hl⟩
   .exact ah
  .exact ah
 .rename_i args ts;split at h
  .rename_i s x t t' h1 h2;split at h
   .rename_i htt;subst htt;have hv:=pL hf h1;have hvl:=hv.1;obtain⟨args⟩:=args;obtain⟨ts⟩:=ts;simp only at h1 hv hvl h2
    match args,hv,hvl with
    | [x1,x2],hv,_=>
      subst h2;split at h
      .rename_i q hq;simp only[yAb]at h;subst h;obtain⟨v,w',r,hl⟩:=aTy (fl:=fl) hs hq (hv.2 0 _ _ rfl rfl) (hv.2 1 _ _ rfl rfl) ty;exact cq
      .obtain⟨v,w',r,hl⟩:=aTz hs hX h (hv.2 0 _ _ rfl rfl) (hv.2 1 _ _ rfl rfl).strip ty;exact cq
   .split at h
    .rename_i l hst;split at h
     .rename_i hb;have hv:=pL hf h1;have hvl:=hv.1;obtain⟨args⟩:=args;obtain⟨ts⟩:=ts;simp only at h1 hv hvl h2
      match args,hv,hvl with
      | [x1,x2],hv,_=>
        subst h2;have hx2:=(hv.2 1 _ _ rfl rfl).sZ;split at h
        .rename_i q hq;simp only[yAb]at h;subst h;obtain⟨v,w',r,hl⟩:=aTA (fl:=fl) hs hst hb hq (hv.2 0 _ _ rfl rfl) ty;exact ep
        .obtain⟨v,w',r,hl⟩:=aTB hs hX hst hb h (hv.2 0 _ _ rfl rfl) ty;exact ep
     .exact ah
    .rename_i m hst;have hv:=pL hf h1;have hvl:=hv.1;obtain⟨args⟩:=args;obtain⟨ts⟩:=ts;simp only at h1 hv hvl h2
     match args,hv,hvl with
     | [x1,x2],hv,_=>
       subst h2;have hx2:=(hv.2 1 _ _ rfl rfl).pR;obtain⟨v,w',r,hl⟩:=aTC (fl:=fl) hs hst h (hv.2 0 _ _ rfl rfl) ty;exact ep
    .exact ah
  .exact ah
 .exact ah
theorem aTg(hs:Sr c)(hX:Xw fl c){a:Act}{fr:Dq}(hf:FR c a fr){o:Oper}{p:PD}{σ':Dp}(h:pop P fl fr c.σ o.op=some (p,σ')) :
  ∃v w',aKh P o a c.w v w'/\Leaves fl c p σ' v w':=by
 unfold pop at h;split at h
 .rename_i q hq;simp only[yAb,yAc]at h;obtain⟨rfl,rfl⟩:=h;obtain⟨v,r,hv⟩:=aTD hf hq c.w;exact⟨v,c.w,.inl r,c,rfl,rfl,hs,.refl _ _,hv,λ_ h=>.inl h⟩
 .exact aTl hs hX hf h
theorem aJP{a:Act}{fr:Dq}(hf:FR c a fr){o:Oper}{f:FuncId}{ps:Dq}(h:dO fr o.op=some (.inl f,ps)){fn:Func}(hfn:P.funcs[f]?=some fn)(hb:fn.body.isSome=true)(hn:(fn.name== "runtime.NumGoroutine")=false) :
  ∃vs:List Value,(execOp a.eval o).run P c.w=.ok (.enter f vs.toArray) c.w/\aK c vs ps:=by
 obtain⟨dst,op,ty,pos,after,guard⟩:=o;simp only at h;unfold dO at h;split at h
 .rename_i g args ts;split at h
  .rename_i f' cap qs h1 h2;simp only[yAb,yAc,yCy]at h;obtain⟨rfl,rfl⟩:=h;obtain⟨cs,e,hcs⟩:=(cY hf h1).UK;have hv:=pL hf h2;refine⟨args.toList.map a.eval++cs,?_,hv.append hcs⟩;have hb':fn.body.isNone=false:=Cp;have e2:(#[]++args.map a.eval++cs.toArray)=(args.toList.map a.eval++cs).toArray:=Ag;exact nj
  .rename_i f' first qs h1 h2;simp only[yAb,yAc,yCy]at h;obtain⟨rfl,rfl⟩:=h;obtain⟨cs,e,hcs⟩:=(cY hf h1).aES;have hv:=pL hf h2;refine⟨cs++args.toList.map a.eval,?_,hcs.append hv⟩;have hb':fn.body.isNone=false:=Cp;have e2:(cs.toArray++args.map a.eval++#[])=(cs++args.toList.map a.eval).toArray:=Ag;exact nj
  .exact ah
  .exact ah
 .exact ah
theorem VR.aTE{v:Value}{id:Nat}(h:VR c v (.yield id)):∃l,v=.func (.yield l) #[] #[]/\c.D id/\mC c.σ[id]?/\c.ρ id=.pointer (some ⟨l,0,none⟩):=by
 cases h with|yield _ l h1 h2 h3=>exact⟨l,rfl,h1,h2,h3⟩
theorem aTf{a:Act}{fr:Dq}(hf:FR c a fr){o:Oper}{id:Nat}{ps:Dq}(h:dO fr o.op=some (.inr id,ps)) :
  ∃(l:Nat) (vs:List Value),(∀w:World,(execOp a.eval o).run P w=(Instr.yield l vs.toArray).run P w)/\aK c vs ps/\c.D id/\c.ρ id=.pointer (some ⟨l,0,none⟩):=by
 obtain⟨dst,op,ty,pos,after,guard⟩:=o;simp only at h;unfold dO at h;split at h
 .rename_i g args ts;split at h
  .exact ah
  .exact ah
  .rename_i id' qs h1 h2;simp only[yAb,yAc,Sum.inr.injEq]at h;obtain⟨rfl,rfl⟩:=h;obtain⟨l,e,hd,hn,hr⟩:=(cY hf h1).aTE;have hv:=pL hf h2;refine⟨l,args.toList.map a.eval,λw=>?_,hv,hd,hr⟩;have e2:(#[]++args.map a.eval)=(args.toList.map a.eval).toArray:=Ag;simp only[execOp,resolve,e,Deferred.ofValue,yAW,yBb,yBa,invoke,e2]
  .exact ah
 .exact ah
end
end
section
inductive PX where
 |normal
 |exit (id:Nat)
 |ret
 |panic (v:Value)
def PX.YX:PX->Exit
 |.normal=>.normal
 |.exit id=>.exit id
 |.ret=>.ret
 |.panic v=>.panic [{ v,recovered:=false }]
structure PO where
 x:PX
 fr:Dq
 ms:List Nat
 σ:Dp
abbrev b9:=Nat->FuncId ⊕ Nat->List PD->List U->Option (PD×List U)
abbrev xY:=Option Nat->Code->Nat->List PD->List Nat->List U->Option PO
structure aE where
 ret:FuncId->Option (Nat->List PD->List U->Option (PD×List U))
 bD:FuncId->Option (Nat->List PD->List U->Option (Value×List U)):=λ_=>none
instance:CoeFun aE (λ_=>FuncId->Option (Nat->List PD->List U->Option (PD×List U))):=⟨aE.ret⟩
def aE.nil:aE:={ ret:=λ_=>none }
def bK(P:Program)(call:b9)(fl:Nat)(fr:List PD)(σ:List U)(op:Op):Option (PD×List U):=
 match dO fr op with
 |some (tg,args)=>call fl tg args σ
 |none=>pop P fl fr σ op
def dS(P:Program)(call:b9)(fl:Nat)(ops:Array Oper):List Oper->List PD->List U->Option (List PD×List U)
 | [],fr,σ=>some (fr,σ)
 |o::rest,fr,σ=>
  if Region.wanted o (bA ops fr)then
   match bK P call fl fr σ o.op with
   |some (p,σ')=>dS P call fl ops rest (aM fr o.dst p) σ'
   |none=>none
  else dS P call fl ops rest (aM fr o.dst (.aI [])) σ
def UT(P:Program)(call:b9)(fl:Nat)(ops:Array Oper):List Oper->List PD->List U->Option (List PD×List U)
 | ⟨some d,.buildSlice t len parts,_,_,_,none⟩::⟨d2,.convert s t' (.tmp d'),_,_,_,none⟩::rest,fr,σ=>
   match P.underlying t with
   |some (.slice e)=>match P.underlying e with
    |some (.int .u8)=>if s=t/\t'=t/\d'=d/\d<fr.length then
      match sU fr parts.toList with
      |some ps=>match J7 P t len (ps.map λq=>(q.1,q.2.strip))with
       |some (.slice n xs .full)=>dS P call fl ops rest (aM (fr.set d (.slice n xs .full)) d2 (.slice n xs .full)) σ
       |_=>none
      |none=>none
     else none
    |_=>none
   |_=>none
 |_,_,_=>none
def OW(P:Program)(call:b9)(fl:Nat)(ops:Array Oper)(fr:List PD)(σ:List U):Option (List PD×List U):=
 match dS P call fl ops ops.toList fr σ with
 |some x=>some x
 |none=>UT P call fl ops ops.toList fr σ
def dF:Op->Bool
 |.convert s d _=>!QV s d
 |.move _|.assign _|.pick .. | .binOp .. | .unOp .. | .makeFunc .. | .slice .. | .fieldAddr .. | .field .. | .indexAddr .. | .index .. | .extract .. | .nilCheck _|.build ..=>true
 |.call { callee:=.builtin .len,.. } | .call { callee:=.builtin .min,.. } | .call { callee:=.builtin .max,.. }=>true
 |_=>false
def dE:Op->Bool
 |.load ..=>true
 |.convert s d _=>QV s d
 |_=>false
def bT:Op->Bool
 |.alloc _=>true
 |_=>false
def aE4(t:TypeId)(a b:Operand):Bool:=match a,b with
 |.const (.int _ l),.const (.int _ k)=>decide (l=k)&&decide (0<l)&&!aE3 t
 |_,_=>false
def jO:Op->Bool
 |.buildSlice ..=>true
 |.makeSlice t a b=>aE4 t a b
 |_=>false
def eU:Op->Bool
 |.store ..=>true
 |_=>false
def cR:Op->Bool
 |.box ..=>true
 |.call { callee:=.value _,.. }=>true
 |.call { callee:=.builtin .append,.. }=>true
 |.call { callee:=.builtin .copy,.. }=>true
 |_=>false
def dJ(o:Op):Bool:=eU o||cR o
def J8(acc:List Nat)(o:Oper):Nat:=
 o.after.toList.foldl (λs e=>if Region.binds .any e then s ||| 2^e.on ||| acc.getD e.on 0 else s) 0
def bU:List Oper->List Nat->List Nat
 | [],acc=>acc
 |o::r,acc=>bU r (acc++[J8 acc o])
def eL(f:Op->Bool)(ops:List Oper)(i:Nat):Bool:=((ops[i]?).map λo=>f o.op).getD false
def loose(ms:List Nat)(i j:Nat):Bool:=!(ms.getD i 0).testBit j&&!(ms.getD j 0).testBit i
def gH(ops:List Oper)(ms:List Nat)(k:Nat):Bool:=
 (List.range ops.length).all λi=>!eL dE ops i||!loose ms i k
def aKc(ops:Array Oper)(i:Nat)(o:Oper):Bool:=
 (List.range ops.size).all λj=>j==i ||
  match ops[j]? with
  |none=>true
  |some oj=>match oj.dst with
   |none=>true
   |some d=>(o.dst != some d)&&(!(o.looksAt ops).contains d ||
     (if j<i then o.after.any (λe=>Region.binds .any e&&e.on==j)else oj.after.any (λe=>Region.binds .any e&&e.on==i)))
def EM(ops:Array Oper)(ms:List Nat):Bool:=
 Region.noSelect ops &&
 (List.range ops.size).all λi=>match ops[i]? with
  |none=>true
  |some o=>(dF o.op||dE o.op||bT o.op||jO o.op||dJ o.op)&&aKc ops i o&&o.after.all (λe=>!Region.binds .any e||e.on<i) &&
    (!dJ o.op||(List.range i).all λj=>!eL dJ ops.toList j||(ms.getD i 0).testBit j)
def j6(P:Program):List Oper->Option (List U)
 | []=>some []
 |o::r=>match o.op with
  |.alloc t=>match dT P t,j6 P r with
    |some p,some l=>if p.cells.all PD.plain then some (.box (boxed t p)::l)else none
    |_,_=>none
  |_=>j6 P r
def j7:PD->Option Nat
 |.ptr id _=>some id
 |.fD id _ _=>some id
 |.cL id _ _ _=>some id
 |_=>none
def nL(fr:List PD):Op->Option Nat
 |.load _ x=>match aT fr x with|some a=>j7 a|none=>none
 |.store _ x _=>match aT fr x with|some a=>j7 a|none=>none
 |.convert _ _ x=>match aT fr x with|some a=>j7 a|none=>none
 |_=>none
def eF(P:Program)(call:b9)(fl:Nat)(free:Bool)(k:Nat)(fr:List PD)(σ:List U)(op:Op):Option (PD×List U):=
 if dF op then(match dB P fr op with|some p=>some (p,σ)|none=>none)
 else if bT op then some (.ptr k 0,σ)
 else if cR op&&!free then
  match bK P call (max fl σ.length) fr σ op with
  |some (p,σ')=>some (p,σ++σ'.drop σ.length)
  |none=>none
 else if cR op then bK P call fl fr σ op
 else cO P fl fr σ op
structure TE where
 fr:Dq
 σ:Dp
 p:PD
 iQ:Option Nat
def eM(P:Program)(call:b9)(fl:Nat)(ops:Array Oper)(ms:List Nat):Nat->Nat->List Oper->List PD->List U->Option (List TE×Dq×List U)
 |_,_,[],fr,σ=>some ([],fr,σ)
 |i,k,o::rest,fr,σ=>
  let k':=if bT o.op then k+1 else k
  if Region.wanted o (bA ops fr)then
   match eF P call fl (gH ops.toList ms i) k fr σ o.op with
   |some (p,σ')=>match eM P call fl ops ms (i+1) k' rest (aM fr o.dst p) σ' with
    |some (tr,fr',qV)=>some (⟨fr,σ,p,nL fr o.op⟩::tr,fr',qV)
    |none=>none
   |none=>none
  else match eM P call fl ops ms (i+1) k' rest (aM fr o.dst (.aI [])) σ with
   |some (tr,fr',qV)=>some (⟨fr,σ,.aI [],none⟩::tr,fr',qV)
   |none=>none
def qP(ops:List Oper)(ms:List Nat)(tr:List TE):Bool:=
 (List.range ops.length).all λk=>!eL eU ops k||(List.range ops.length).all λi=>!eL dE ops i||!loose ms i k ||
  match ((tr[i]?).bind TE.iQ),((tr[k]?).bind TE.iQ)with
  |some a,some b=>a != b
  |_,_=>true
def kX(P:Program)(call:b9)(fl:Nat)(ops:Array Oper)(fr:List PD)(σ:List U):Option (List PD×List U):=
 let ms:=bU ops.toList []
 if EM ops ms then
  match j6 P ops.toList with
  |some hs=>match eM P call fl ops ms 0 σ.length ops.toList fr (σ++hs)with
   |some (tr,fr',σ')=>if qP ops.toList ms tr then some (fr',σ')else none
   |none=>none
  |none=>none
 else none
def pQ(P:Program)(call:b9)(fl:Nat)(ops:Array Oper):Nat->Nat->List Oper->List PD->List U->Option (List TE×Dq×List U)
 |_,_,[],fr,σ=>some ([],fr,σ)
 |i,k,o::rest,fr,σ=>
  let k':=if bT o.op then k+1 else k
  if Region.wanted o (bA ops fr)then
   match eF P call fl true k fr σ o.op with
   |some (p,σ')=>match pQ P call fl ops (i+1) k' rest (aM fr o.dst p) σ' with
    |some (tr,fr',qV)=>some (⟨fr,σ,p,nL fr o.op⟩::tr,fr',qV)
    |none=>none
   |none=>none
  else match pQ P call fl ops (i+1) k' rest (aM fr o.dst (.aI [])) σ with
   |some (tr,fr',qV)=>some (⟨fr,σ,.aI [],none⟩::tr,fr',qV)
   |none=>none
def TE.at(tr:List TE)(E2:List U)(j:Nat):List U:=match tr[j]? with
 |some t=>t.σ
 |none=>E2
def aTk(ops:List Oper)(ms:List Nat)(tr:List TE)(E2:List U):Prop:=
 ∀(k i id:Nat) (ok oi:Oper),ops[k]?=some ok->ops[i]?=some oi->cR ok.op=true->dE oi.op=true->loose ms i k=true->(tr[i]?).bind TE.iQ=some id ->
  (TE.at tr E2 k).length<=(TE.at tr E2 (k+1)).length/\(id<(TE.at tr E2 k).length->(TE.at tr E2 (k+1))[id]?=(TE.at tr E2 k)[id]?)
open Classical in
def iO(P:Program)(call:b9)(fl:Nat)(ops:Array Oper)(fr:List PD)(σ:List U):Option (List PD×List U):=
 match kX P call fl ops fr σ with
 |some x=>some x
 |none=>if EM ops (bU ops.toList [])then
  match j6 P ops.toList with
  |some hs=>match pQ P call fl ops 0 σ.length ops.toList fr (σ++hs)with
   |some (tr,fr',σ')=>if qP ops.toList (bU ops.toList []) tr=true/\aTk ops.toList (bU ops.toList []) tr σ' then some (fr',σ')else none
   |none=>none
  |none=>none
 else none
def EU(P:Program)(fr:List PD)(σ:List U):ResultVar->Option PD
 |.tmp t=>some (fr.getD t (.aI []))
 |.cell a t=>match fr.getD a (.aI [])with
   |.ptr id off=>kW P σ t (.ptr id off)
   |_=>none
def pJ(P:Program)(fr:List PD)(σ:List U):List ResultVar->Option (List PD)
 | []=>some []
 |r::rs=>match EU P fr σ r,pJ P fr σ rs with
  |some p,some ps=>some (p::ps)
  |_,_=>none
def OP:List PD->PD
 | [p]=>p
 |ps=>.aI ps
def QY(fl:Nat):List Nat->List U->Option (List U)
 | [],σ=>some σ
 |m::ms,σ=>if fl<=m then(match σ[m]? with
  |some .mark=>QY fl ms (σ.set m .none)
  |_=>none)else none
def QX(fr:List PD):List Tmp->List PD->Dq
 |t::ts,p::ps=>QX (fr.set t p) ts ps
 |_,_=>fr
def UP(code:xY)(fl:Nat)(id:Nat)(args:List PD)(σ:List U):Option (PD×List U):=
 if fl<=id then
  match σ[id]? with
  |some (.loop .ready fr ps assign body)=>
   if args.length=ps.length then
    match code (some id) assign fl (QX fr ps args) [] σ with
    |some ⟨.normal,aH,ms1,σ1⟩=>
     match σ1[id]? with
     |some (.loop .ready iP UL UM UN)=>
      match code (some id) body fl aH ms1 (σ1.set id (.loop .busy iP UL UM UN))with
      |some ⟨x,_,_,σ2⟩=>
       match σ2[id]? with
       |some (.loop .busy fr3 Y6 as3 bd3)=>
        match x with
        |.normal=>some (.bool true,σ2.set id (.loop .ready fr3 Y6 as3 bd3))
        |.ret=>some (.bool false,σ2.set id (.loop (.done .ret) fr3 Y6 as3 bd3))
        |.exit k=>some (.bool false,σ2.set id (.loop (.done (.exit k)) fr3 Y6 as3 bd3))
        |.panic _=>none
       |_=>none
      |none=>none
     |_=>none
    |_=>none
   else none
  |_=>none
 else none
def sX(P:Program)(fl:Nat)(fn:Func)(r:PO):Option (PD×List U):=
 match r.x with
 |.exit _=>none
 |.panic _=>none
 |_=>match QY fl r.ms r.σ with
  |some σ=>match pJ P r.fr σ fn.results.toList with
   |some ps=>some (OP ps,σ)
   |none=>none
  |none=>none
def UI(P:Program)(code:xY)(fl:Nat)(f:FuncId)(args:List PD)(σ:List U):Option (PD×List U):=
 match P.funcs[f]? with
 |some fn=>match fn.body with
  |some c=>match code none c fl (args++List.replicate (fn.ntmps-args.length) (.aI [])) [] σ with
   |some r=>sX P fl fn r
   |none=>none
  |none=>none
 |none=>none
def PD.scalar:PD->Option Value
 |.int k n=>some (.int k n)
 |.bool b=>some (.bool b)
 |.str s=>some (.string ⟨s.toArray⟩)
 |_=>none
def scalars:List PD->Option (List Value)
 | []=>some []
 |p::ps=>match p.scalar,scalars ps with
  |some v,some vs=>some (v::vs)
  |_,_=>none
def PD.fail:PD->Option Value
 |.iface t (.agg cs)=>match scalars cs with
   |some vs=>some (.iface t (.agg vs.toArray))
   |none=>none
 |_=>none
def o7(E:aE)(fl:Nat)(fr:List PD)(σ:List U)(op:Op):Option (Value×List U):=
 match op with
 |.panic x=>match aT fr x with
   |some p=>match p.fail with
    |some v=>some (v,σ)
    |none=>none
   |none=>none
 |_=>match dO fr op with
  |some (.inl f,args)=>match E.ret f with
   |some g=>match g fl args σ with
    |none=>match E.bD f with
     |some q=>q fl args σ
     |none=>none
    |some _=>none
   |none=>none
  |_=>none
def EV(P:Program)(E:aE)(call:b9)(fl:Nat)(ops:Array Oper):List Oper->List PD->List U->Option (Value×Dq×List U)
 | [],_,_=>none
 |o::rest,fr,σ=>
  if Region.wanted o (bA ops fr)then
   match bK P call fl fr σ o.op with
   |some (p,σ')=>EV P E call fl ops rest (aM fr o.dst p) σ'
   |none=>match o7 E fl fr σ o.op with
    |some (v,σ')=>some (v,fr,σ')
    |none=>none
  else EV P E call fl ops rest (aM fr o.dst (.aI [])) σ
def cW(E:aE):b9
 |fl,.inl f,args,σ=>match E f with
  |some g=>g fl args σ
  |none=>none
 |_,.inr _,_,_=>none
def G4(P:Program)(E:aE)(fl:Nat)(ops:Array Oper)(b:Nat->Bool):Nat->Nat->List Oper->List PD->List U->Option (Value×List U)
 |_,_,[],_,_=>none
 |i,k,o::rest,fr,σ=>
  if Region.wanted o (bA ops fr)then
   match eF P (cW E) fl (b i) k fr σ o.op with
   |some (p,σ')=>G4 P E fl ops b (i+1) (if bT o.op then k+1 else k) rest (aM fr o.dst p) σ'
   |none=>o7 E fl fr σ o.op
  else G4 P E fl ops b (i+1) (if bT o.op then k+1 else k) rest (aM fr o.dst (.aI [])) σ
def PD.mark:PD:=.bG (.bool true)
def PD.Q4:PD->Bool
 |.bG (.bool true)=>true
 |_=>false
def PD.marked:PD->Bool
 |.agg cs=>cs.any PD.Q4
 |p=>p.Q4
open Classical in
def Q5(E:aE)(fl0:Nat)(f:FuncId)(x:PD)(v:Value)(τ:List U):Nat->List PD->List U->Option (PD×List U):=λfl args σ=>
 match E.ret f with
 |some g=>match g fl args σ with
  |some r=>some r
  |none=>match E.bD f with
   |some q=>if fl=fl0/\q fl args σ=some (v,τ)then some (x,σ)else none
   |none=>none
 |none=>none
def aE.KC(E:aE)(fl0:Nat)(f:FuncId)(x:PD)(v:Value)(τ:List U):aE:={ ret:=λf'=>if f'=f then some (Q5 E fl0 f x v τ)else E.ret f',bD:=E.bD }
open Classical in
def M0(P:Program)(E:aE)(fl:Nat)(ops:Array Oper)(fr:List PD)(σ:List U):Option (Value×List U):=
 match j6 P ops.toList with
 |some hs=>match G4 P E fl ops (gH ops.toList (bU ops.toList [])) 0 σ.length ops.toList fr (σ++hs),G4 P E fl ops (λ_=>true) 0 σ.length ops.toList fr (σ++hs)with
  |some (v,τ),some (v2,lF)=>if v2=v/\lF=τ/\(ops.toList.all λo=>match o.dst with|some d=>decide (7<=d)|none=>true)=true/\∃f x fr' σ',iO P (cW (E.KC fl f x v τ)) fl ops fr σ=some (fr',σ')/\fr'.any PD.marked=true/\x.marked=true then some (v,τ)else none
  |_,_=>none
 |none=>none
def oI(P:Program)(E:aE)(code:xY):b9
 |fl,.inl f,args,σ=>match E f with
  |some g=>g fl args σ
  |none=>UI P code fl f args σ
 |fl,.inr id,args,σ=>UP code fl id args σ
def YS(id:Nat)(fr:List PD)(ms:List Nat)(σ:List U):Option PO:=
 match σ[id]? with
 |some (.loop .ready _ _ _ _)=>some ⟨.normal,fr,ms,σ.set id .none⟩
 |some (.loop (.done .ret) _ _ _ _)=>some ⟨.ret,fr,ms,σ.set id .none⟩
 |some (.loop (.done (.exit k)) _ _ _ _)=>some ⟨.exit k,fr,ms,σ.set id .none⟩
 |_=>none
def YY(call:b9)(rd:Option Nat)(gf:FuncId)(cap:List PD)(ps:List Tmp)(assign body:Code)(fl:Nat)(fr:List PD)(ms:List Nat)(σ:List U):Option PO:=
 if fl<=σ.length then
  match rd with
  |none=>match call fl (.inl gf) (.yield (σ.length+1)::cap) (σ++[.mark]++[.loop .ready fr ps assign body])with
   |some (_,σ2)=>YS (σ.length+1) fr (σ.length::ms) σ2
   |none=>none
  |some l=>match σ[l]? with
   |some (.loop _ _ _ _ _)=>match call fl (.inl gf) (.yield σ.length::cap) (σ++[.loop .ready fr ps assign body])with
    |some (_,σ2)=>YS σ.length fr ms σ2
    |none=>none
   |_=>none
 else none
def gP(P:Program)(E:aE):Nat->xY
 |0=>λ_ _ _ _ _ _=>none
 |n+1=>λrd c fl fr ms σ=>
  match c with
  |.skip=>some ⟨.normal,fr,ms,σ⟩
  |.region _ ops false=>match OW P (oI P E (gP P E n)) fl ops fr σ with
    |some (fr',σ')=>some ⟨.normal,fr',ms,σ'⟩
    |none=>match EV P E (oI P E (gP P E n)) fl ops ops.toList fr σ with
     |some (v,fr',σ')=>some ⟨.panic v,fr',ms,σ'⟩
     |none=>none
  |.region _ ops true=>match iO P (oI P E (gP P E n)) fl ops fr σ with
    |some (fr',σ')=>some ⟨.normal,fr',ms,σ'⟩
    |none=>match M0 P E fl ops fr σ with
     |some (v,τ)=>some ⟨.panic v,fr,ms,τ⟩
     |none=>none
  |.seq x y=>match gP P E n rd x fl fr ms σ with
    |some ⟨.normal,fr',ms',σ'⟩=>gP P E n rd y fl fr' ms' σ'
    |r=>r
  |.cond g x y=>match aT fr g with
    |some (.bool true)=>gP P E n rd x fl fr ms σ
    |some (.bool false)=>gP P E n rd y fl fr ms σ
    |_=>none
  |.block id b=>match gP P E n rd b fl fr ms σ with
    |some ⟨.exit k,fr',ms',σ'⟩=>some ⟨if k=id then .normal else .exit k,fr',ms',σ'⟩
    |r=>r
  |.loop b=>match gP P E n rd b fl fr ms σ with
    |some ⟨.normal,fr',ms',σ'⟩=>gP P E n rd (.loop b) fl fr' ms' σ'
    |r=>r
  |.rangeFunc g ps assign body=>match aT fr g with
    |some (.func gf cap)=>YY (oI P E (gP P E n)) rd gf cap ps.toList assign body fl fr ms σ
    |_=>none
  |.exit id=>some ⟨.exit id,fr,ms,σ⟩
  |.ret=>some ⟨.ret,fr,ms,σ⟩
  |_=>none
def cD(P:Program)(E:aE)(n:Nat):b9:=oI P E (gP P E n)
end
section
open Go.RowKit
abbrev noP:Cx->List PanicEntry->World->Prop:=λ_ _ _=>False
def aBT(Pp:Cx->List PanicEntry->World->Prop)(fl:Nat)(c:Cx)(p:PD)(σ':List U):Ending->World->Prop
 |.returned v,w'=>Leaves fl c p σ' v w'
 |.panicked ch,w'=>Pp c ch w'
 |_,_=>False
abbrev MJ(fl:Nat)(c:Cx)(p:PD)(σ':List U):Ending->World->Prop:=aBT noP fl c p σ'
structure Ok (F:Fence) (P:Program) (call:b9) (Pp:Cx->List PanicEntry->World->Prop:=noP):Prop where
 fn:∀ {fl:Nat} {f:FuncId} {args:Dq} {c:Cx} {vs:Ds} {p:PD} {σ':Dp},call fl (.inl f) args c.σ=some (p,σ')->Sr c->Xw fl c->aK c vs args ->
  (∃fn,P.funcs[f]?=some fn/\fn.body.isSome=true)/\∀m,CallsIn F m P f vs.toArray c.w (aBT Pp fl c p σ')
 round:∀ {fl id l:Nat} {args:Dq} {c:Cx} {vs:Ds} {p:PD} {σ':Dp},call fl (.inr id) args c.σ=some (p,σ')->Sr c->Xw fl c->aK c vs args->c.D id->c.ρ id=.pointer (some ⟨l,0,none⟩) ->
  ∃g tmps asg bd,(Instr.yield l vs.toArray).run P c.w=.ok (.round l g tmps asg bd) c.w/\∀m,RoundIn F m P l g tmps asg bd c.w (aBT Pp fl c p σ')
structure Open (F:Fence) (P:Program):Prop where
 fn:∀f,F.fn f
 depth:F.depth=none
 name:∀(f:FuncId) fn,P.funcs[f]?=some fn->(fn.name== "runtime.NumGoroutine")=false
 alive:F.alive=false
section
variable{F:Fence}{P:Program}{call:b9}{c:Cx}{fl n:Nat}{Q:Exit->Act->World->Prop}
theorem Open.asks(hF:Open F P):F.depth.isSome=true->1<=n:=by rw[hF.depth];intro h;cases h
theorem aEU{Pp:Cx->List PanicEntry->World->Prop}(hF:Open F P)(hc:Ok F P call Pp)(hs:Sr c)(hX:Xw fl c){a:Act}{fr:Dq}(hf:FR c a fr){o:Oper}{p:PD}{σ':Dp}
  (h:bK P call fl fr c.σ o.op=some (p,σ')) {K:Act->World->Prop} (hK:∀v w',Leaves fl c p σ' v w'->K (a.put o.dst v) w') (hR:∀ch w',Pp c ch w'->Q (.panic ch) a w':=by intro _ _ h;exact h.elim):o.wpIn F n P a c.w K Q:=by
 have hnd:∀d,o.op≠.defer d:=by
  intro d e;rw[e]at h;simp[bK,dO,pop,dB,cO]at h
 refine⟨λf _=>hF.fn f,?_⟩;rw[yDb _ _ _ hnd];unfold bK at h;split at h
 .rename_i tg args htg;cases tg with
  |inl f=>
   obtain⟨vs0,aER⟩:∃vs:List Value,aK c vs args:=by
    exact br
   obtain⟨⟨fn,hfn,hb⟩,_⟩:=hc.fn h hs hX aER;obtain⟨vs,r,hvs⟩:=aJP (P:=P) hf htg hfn hb (hF.name f fn hfn);rw[r];refine⟨hF.asks,yBQ ((hc.fn h hs hX hvs).2 _) λe w'' he=>?_⟩;exact mu
  |inr id=>
   obtain⟨l,vs,r,hvs,hd,hr⟩:=aTf (P:=P) hf htg;obtain⟨g,tmps,asg,bd,ry,hround⟩:=hc.round h hs hX hvs hd hr;rw[r,ry];refine⟨hF.asks,RoundIn.mono (hround _) λe w'' he=>?_⟩;exact mu
 .obtain⟨v,w',hy,hl⟩:=aTg (P:=P) hs hX hf h;rcases hy with hy | ⟨hy,rfl⟩
  .rw[hy];exact hK v w' hl
  .rw[hy];exact hK undef w' hl
theorem FR.put{a:Act}{fr:Dq}(hf:FR c a fr){v:Value}{p:PD}(hv:VR c v p)(dst:Option Tmp):FR c (a.put dst v) (aM fr dst p):=by
 cases dst with
 |none=>exact hf
 |some d=>
  refine⟨⟨by simpa [Act.put,aM]using hf.1.1,λi u q h1 h2=>?_⟩,hf.2⟩;simp only[Act.put,aM,yDO,yCA]at h1 h2
  by_cases e:d=i
  .subst e;simp only[yAM]at h1 h2;split at h1
   .split at h2
    .simp only[yAb]at h1 h2;subst h1 h2;exact hv
    .simp at h2
   .simp at h1
  .rw[yAI e]at h1 h2;exact hf.1.2 i u q h1 h2
theorem VR.undef(c:Cx):VR c undef (.aI []):=.aI [] [] rfl (λi v d h=>Aa)
theorem VR.aKf{v:Value}{p:PD}(h:VR c v p)(b:Bool):v=.bool b↔p=.bool b:=by
 constructor
 .rintro rfl
  cases h with
  |bool=>rfl
  |bG _ h=>cases h
 .rintro rfl;cases h;rfl
theorem aTh{a:Act}{fr:Dq}(hf:FR c a fr)(ops:Array Oper)(j:Nat):yielded ops a.tmps j=bA ops fr j:=by
 unfold yielded bA;cases hd:(ops[j]?).bind (·.dst)with
 |none=>rfl
 |some d=>
  simp only[yCD];have hl:=hf.1.1;rcases yBF d fr.length with hlt|hge
  .have hlt':d<a.tmps.toList.length:=by rw[hl];exact hlt
   have e1:a.tmps[d]?=some (a.tmps.toList[d]):=by rw[<-yCi];exact yAh hlt'
   have e2:fr[d]?=some fr[d]:=yAh hlt;have hv:=hf.1.2 d _ _ (yAh hlt') e2;rw[e1,e2];cases hx:fr[d]with
   |bool b=>rw[hx]at hv;rw[(hv.aKf b).2 rfl]
   |_=>
    rw[hx]at hv;cases hy:a.tmps.toList[d]with
    |bool b=>rw[hy]at hv;have:=(hv.aKf b).1 rfl;cases this
    |_=>rfl
  .have e1:a.tmps[d]?=none:=by rw[<-yCi];exact yBo (by rw[hl];exact hge)
   rw[e1,yBo hge]
theorem aET{a:Act}{fr:Dq}(hf:FR c a fr)(ops:Array Oper)(o:Oper):Region.wanted o (yielded ops a.tmps)=Region.wanted o (bA ops fr):=by
 have:yielded ops a.tmps=bA ops fr:=funext λj=>aTh hf ops j
 rw[this]
theorem aJS(hF:Open F P)(hc:Ok F P call){ops:Du}:∀(l:List Oper) (i:Nat) (_:ops.toList.drop i=l) {c:Cx} (_:Sr c) (_:Xw fl c) {a:Act} {fr:Dq} (_:FR c a fr) {fr':Dq} {σ':Dp}
  (_:dS P call fl ops l fr c.σ=some (fr',σ'))
  (_:∀c' a',c'.σ=σ'->Sr c'->Nx fl c c'->FR c' a' fr'->a'.defers=a.defers->Q .normal a' c'.w),wpOpsIn F n P ops Q (List.range' i l.length) a c.w:=by
 intro l
 induction l with
 |nil=>
  intro i _ c hs hX a fr hf fr' σ' h hQ;simp only[dS,yAb,yAc]at h;obtain⟨rfl,rfl⟩:=h;exact hQ c a rfl hs (.refl _ _) hf rfl
 |cons o rest ih=>
  intro i hdrop c hs hX a fr hf fr' σ' h hQ;have hi:i<ops.toList.length:=by
   exact qd
  have ho:ops[i]?=some o:=by
   exact mg
  have xV:ops.toList.drop (i+1)=rest:=by
   rw[<-yBq,hdrop];rfl
  simp only[yAK,yCL,wpOpsIn,ho];rw[aET hf];simp only[dS]at h;split at h
  .rename_i hw;rw[yAJ hw];split at h
   .rename_i p σ1 hst;refine aEU hF hc hs hX hf hst λv w' hl=>?_
    exact fu
   .exact ah
  .exact gm
theorem aSM(hF:Open F P)(hc:Ok F P call){ops:Du}{c:Cx}(hs:Sr c)(hX:Xw fl c){a:Act}{fr:Dq}(hf:FR c a fr){fr':Dq}{σ':Dp}
  (h:UT P call fl ops ops.toList fr c.σ=some (fr',σ'))
  (hQ:∀c' a',c'.σ=σ'->Sr c'->Nx fl c c'->FR c' a' fr'->a'.defers=a.defers->Q .normal a' c'.w):wpOpsIn F n P ops Q (List.range' 0 ops.toList.length) a c.w:=by
 unfold UT at h;split at h
 .rename_i d t len parts Q7 pos1 Q8 d2 s t' d' ty2 pos2 ed2 rest hops;split at h
  .rename_i e hu;split at h
   .rename_i he;split at h
    .rename_i hcond;obtain⟨hst,htt,hdd,hdl⟩:=hcond;subst hst;subst htt;subst hdd;split at h
     .rename_i ps hps;split at h
      .rename_i m xs hnew;obtain⟨a1,a2⟩:=aB2 hf hps;obtain⟨e',cells',E1,hrun,hv⟩:=aKg hs (vparts:=parts.toList.map λq=>(q.1,a.eval q.2)) hnew (by simpa using a1) (λi jv jp h3 h4=>by
        rw[yAo]at h4;cases hx:ps[i]? with
        |none=>rw[hx]at h4;simp at h4
        |some x=>
         rw[hx]at h4;simp only[yAC,yAb]at h4;subst h4;exact⟨(a2 i jv x h3 hx).1,(a2 i jv x h3 hx).2.strip⟩)
       obtain rfl:e=e':=by rw[hu]at E1;simpa using E1
       have hgr:=aTi c.w e cells';obtain⟨fz,hfz⟩:=aTj c.w e cells';have hvr:=hv _ fz hgr hfz;have hmk:=run_mark (P:=P) c.w cells' len len hu he;have nx:Nx fl c (c.at ((c.w.alloc (.cells cells' e)).freeze ⟨c.w.heap.size,cells'.size,none⟩ 1)):=Nx.grow hs hgr;have hs':=Sr.grow hs hgr;obtain⟨v,hvd⟩:∃v:Value,v=.slice (some ⟨c.w.heap.size,0,none⟩) len len:=⟨_,rfl⟩;rw[<-hvd]at hrun hvr hmk;have qQ:=((hf.mono nx).put hvr (some d')).put hvr d2;have h0:ops[0]?=some ⟨some d',.buildSlice t' len parts,Q7,pos1,Q8,none⟩:=by rw[<-yCi,hops];rfl
       have h1:ops[1]?=some ⟨d2,.convert t' t' (.tmp d'),ty2,pos2,ed2,none⟩:=by rw[<-yCi,hops];rfl
       have hlen:ops.toList.length=rest.length+2:=by rw[hops];rfl
       rw[hlen,yCL,yCL];simp only[wpOpsIn,h0,h1,yAp];rw[yAJ (show Region.wanted _ _=true from rfl)];refine⟨λf _=>hF.fn f,?_⟩;rw[yDb _ _ _ (by intro d e;cases e)];have earr:(Array.map (λx=>match x with|(i,x)=>(i,a.eval x)) parts)=(parts.toList.map λq=>(q.1,a.eval q.2)).toArray:=Ag;have vG:(execOp a.eval ⟨some d',.buildSlice t' len parts,Q7,pos1,Q8,none⟩).run P c.w=.ok (.value v) (c.w.alloc (.cells cells' e)):=by
        simp only[execOp,yAW];rw[earr,hrun];simp
       rw[vG];simp only[Oper.uponIn,Region.wanted,yAM];refine⟨λf _=>hF.fn f,?_⟩;rw[yDb _ _ _ (by intro d e;cases e)];have hdt:d'<a.tmps.size:=by
        have h9:a.tmps.toList.length=_:=hf.1.1;rw[yCf]at h9;rw[h9];exact hdl
       have hev:(a.put (some d') v).eval (.tmp d')=v:=by simp[Act.eval,Act.put,hdt]
       have hr2:(execOp (a.put (some d') v).eval ⟨d2,.convert t' t' (.tmp d'),ty2,pos2,ed2,none⟩).run P (c.w.alloc (.cells cells' e))=.ok (.value v) ((c.w.alloc (.cells cells' e)).freeze ⟨c.w.heap.size,cells'.size,none⟩ 1):=by
        simp only[execOp,yAW];rw[hev,hmk];simp
       rw[hr2];exact aJS hF hc rest 2 (by rw[hops];rfl) hs' (hX.next hs nx) qQ h (λMZ mT e1 e2 e3 e4 e5=>hQ MZ mT e1 e2 (nx.trans e3) e4 (e5.trans (by cases d2<;>rfl)))
      .cases h
     .cases h
    .cases h
   .cases h
  .cases h
 .cases h
end
end
section
open Go.RowKit
section
variable{P:Program}{fr fr':Dq}
theorem O5:∀(xs:List Operand),(∀x∈xs,aT fr x=aT fr' x)->jQ fr xs=jQ fr' xs
 | [],_=>rfl
 |x::xs,h=>by
  unfold jQ;rw[h x yo,O5 xs λy hy=>h y Cl]
theorem aE8:∀(xs:List (Nat×Operand)),(∀x∈xs.map (·.2),aT fr x=aT fr' x)->sU fr xs=sU fr' xs
 | [],_=>rfl
 |(i,x)::xs,h=>by
  unfold sU;rw[h x yo,aE8 xs λy hy=>h y (by simp only[yAX,yAS];exact .inr hy)]
theorem aJ2(op:Op)(h:∀x∈op.operands,aT fr x=aT fr' x):dB P fr op=dB P fr' op:=by
 cases op<;>simp only[Op.operands]at h<;>simp only[dB]
 case move x=>exact h x yo
 case assign x=>exact h x yo
 case pick a b c=>rw[h a yo,h b yo,h c yo]
 case binOp _ _ a b _=>rw[h a yo,h b yo]
 case unOp _ _ a=>rw[h a yo]
 case convert _ _ a=>rw[h a yo]
 case makeFunc fn first captured=>
  cases fn<;>simp only
  rw[O5 captured.toList λx hx=>h x (by simp only[Array.mem_append];exact .inr Ac),O5 first.toList λx hx=>h x (by simp only[Array.mem_append];exact .inl Ac)]
 case slice _ x lo hi mx=>
  have e:aT fr x=aT fr' x:=h x yo;have e1:lo.map (aT fr)=lo.map (aT fr'):=by cases lo with|none=>rfl|some y=>simp only[yAC];rw[h y yo]
  have e2:hi.map (aT fr)=hi.map (aT fr'):=by cases hi with|none=>rfl|some y=>simp only[yAC];rw[h y yo]
  have e3:mx.map (aT fr)=mx.map (aT fr'):=by cases mx with|none=>rfl|some y=>simp only[yAC];rw[h y yo]
  rw[e,e1,e2,e3]
 case fieldAddr _ a _=>rw[h a yo]
 case field _ a _=>rw[h a yo]
 case indexAddr _ a b=>rw[h a yo,h b yo]
 case index _ a b=>rw[h a yo,h b yo]
 case extract a _=>rw[h a yo]
 case nilCheck a=>rw[h a yo]
 case build _ ps=>rw[aE8 ps.toList λx hx=>h x Ac]
 case makeInterface _ a=>rw[h a yo]
 case typeAssert a _ _ b=>cases b<;>simp only;rw[h a yo]
 case call c=>
  obtain⟨callee,args,ts⟩:=c;cases callee<;>simp only
  rw[O5 args.toList λx hx=>h x Ai]
theorem aBX{fl:Nat}{σ:Dp}(hl:fr.length=fr'.length)(op:Op)(h:∀x∈op.operands,aT fr x=aT fr' x):cO P fl fr σ op=cO P fl fr' σ op:=by
 cases op<;>simp only[Op.operands]at h<;>simp only[cO]
 case load _ a=>rw[h a yo]
 case store _ a b=>rw[h a yo,h b yo]
 case box _ a=>rw[h a yo]
 case convert _ _ a=>rw[h a yo]
 case makeSlice _ a b=>rw[h a yo,h b yo]
 case lookup _ a b _=>rw[h a yo,h b yo]
 case mapUpdate _ a b d=>rw[h a yo,h b yo,h d yo]
 case makeMap _ r=>cases r<;>rfl
 case buildSlice _ _ ps=>rw[aE8 ps.toList λx hx=>h x Ac]
 case call c=>
  obtain⟨callee,args,ts⟩:=c;cases callee<;>(try simp only)
  rename_i b;cases b<;>(try simp only)
  case append=>rw[O5 args.toList λx hx=>h x Ai,hl]
  case copy=>rw[O5 args.toList λx hx=>h x Ai]
  case clear=>rw[O5 args.toList λx hx=>h x Ai]
theorem aTe(op:Op)(h:∀x∈op.operands,aT fr x=aT fr' x):dO fr op=dO fr' op:=by
 cases op<;>simp only[Op.operands]at h<;>simp only[dO]
 case call c=>
  obtain⟨callee,args,ts⟩:=c;cases callee<;>simp only
  rename_i g;rw[O5 args.toList λx hx=>h x (by simp[Call.operands];exact .inr (yBV.1 hx)),h g (by simp[Call.operands])]
theorem aJ3{call:b9}{fl:Nat}{σ:Dp}(hl:fr.length=fr'.length)(op:Op)(h:∀x∈op.operands,aT fr x=aT fr' x):bK P call fl fr σ op=bK P call fl fr' σ op:=by
 unfold bK pop;rw[aTe op h,aJ2 op h,aBX hl op h]
end
section
variable{c:Cx}{fl:Nat}
def Cx.nU(c:Cx)(w:World)(id:Nat)(v:Value):Cx:=
 { w:=w,ρ:=λi=>if i=id then v else c.ρ i,σ:=c.σ,D:=λi=>c.D i\/i=id,X:=c.X }
theorem mV{w:World}{v:Value}{id i:Nat}(h:¬c.D id)(hd:c.D i):(c.nU w id v).ρ i=c.ρ i:=by
 have:i≠id:=by rintro rfl;exact h hd
 simp[Cx.nU,this]
theorem O3{w:World}{v:Value}{id:Nat}:(c.nU w id v).ρ id=v:=by simp[Cx.nU]
theorem Nv.nU{w':World}{v:Value}{id:Nat}{p:PD}(hn:¬c.D id)(ho:c.σ[id]?=some (.box p))(h:c.w.grownBy w' none)(hv:∀b,aW v=some b->c.w.heap.size<=b):Nv c (c.nU w' id v) where
 cell:=λa u ha hu=>by
  have hlt:=M5 hu;refine⟨⟨ha.1,λi o' hd ho'=>?_⟩,by show w'.cell? a=some u;rw[yCp (h.block a.block hlt yo)];exact hu⟩;rcases hd with hd|rfl
  .rw[mV hn hd];exact ha.2 i o' hd ho'
  .rw[O3];have:o'=.box p:=by
    have:c.σ[i]?=some o':=ho';rw[ho]at this;simpa using this.symm
   subst this;intro b hb e;have:=hv b hb;omega
 aZ:=λ_ h=>.inl h
 vI:=λi p hd hp=>⟨mV hn hd,p,hp⟩
 mU:=λi hd hk=>⟨mV hn hd,hk⟩
 xZ:=λi e s n hd hk=>⟨n,hk,yAk _,λ_=>mV hn hd⟩
 x5:=λi e s v cs hd hk=>⟨v,cs,hk,yAk _,λ_=>mV hn hd⟩
theorem Sr.nU{w':World}{id b:Nat}{p:PD}{cs:Dt}{T:TypeId}(hs:Sr c)(hn:¬c.D id)(ho:c.σ[id]?=some (.box p))(h:c.w.grownBy w' none)(hb:c.w.heap.size<=b)
  (hw:w'.heap[b]?=some (.cells cs T (0,0))) (hv:aK c cs.toList p.cells) (h1:(∀v∈cs.toList,v.oneCell'=true)/\∀t ds,p=.typed t ds->T=t):Sr (c.nU w' id (.pointer (some ⟨b,0,none⟩))):=by
 have nv:Nv c (c.nU w' id (.pointer (some ⟨b,0,none⟩))):=Nv.nU hn ho h (λb' hb'=>by simp[aW]at hb';omega);have hgh:Gh (c.nU w' id (.pointer (some ⟨b,0,none⟩))):=λg hh=>by
  obtain⟨⟨cs',T',fz,e1,e2⟩,e3⟩:=hs.iG.2 g hh;refine⟨⟨cs',T',fz,by show w'.heap[g]?=_;rw[h.block g (fX e1) yo];exact e1,e2⟩,λi hd hb'=>?_⟩;rcases hd with hd|rfl
  .rw[mV hn hd]at hb';exact e3 i hd hb'
  .rw[O3]at hb';simp[aW]at hb';have:=fX e1;omega
 refine⟨?_,?_,?_,?_,?_,?_,?_,?_,?_,?_,hs.iG.1.nV nv,hgh⟩
 .intro i q hd hp;rcases hd with hd|rfl
  .obtain⟨b',cs',T',e1,e2,e3,e4⟩:=hs.box i q hd hp;exact⟨b',cs',T',(mV hn hd).trans e1,by show w'.heap[b']?=_;rw[h.block b' (fX e2) yo];exact e2,e3.nV nv,e4⟩
  .have:q=p:=by
    have h':c.σ[i]?=some (.box q):=hp;rw[ho]at h';simpa using h'.symm
   subst this;exact⟨b,cs,T,O3,hw,hv.nV nv,h1⟩
 .intro i e size n hd hp;rcases hd with hd|rfl
  .obtain⟨xs,hx⟩:=hs.own i e size n hd hp;rw[mV hn hd];exact⟨xs,O6 hx (λg hg=>h.block g (hs.lt i g hd hg) yo)⟩
  .have h':c.σ[i]?=some (.own e size n):=hp;rw[ho]at h';simp at h'
 .intro i e size ver ds hd hp;rcases hd with hd|rfl
  .obtain⟨b',C,cur,e1,e2,e3,e4,e5,e6,e7,e8⟩:=hs.row i e size ver ds hd hp;exact⟨b',C,cur,(mV hn hd).trans e1,by show w'.heap[b']?=_;rw[h.block b' (fX e2) yo];exact e2,e3,e4,e5,e6,e7.nV nv,e8⟩
  .have h':c.σ[i]?=some (.row e size ver ds):=hp;rw[ho]at h';simp at h'
 .intro i es hd hp;rcases hd with hd|rfl
  .obtain⟨b',ents,clock,e1,e2,e3,e4⟩:=hs.map i es hd hp;exact⟨b',ents,clock,(mV hn hd).trans e1,by show w'.heap[b']?=_;rw[h.block b' (fX e2) yo];exact e2,e3.nV nv,e4.nV nv⟩
  .have h':c.σ[i]?=some (.map es):=hp;rw[ho]at h';simp at h'
 .intro i hd hm;rcases hd with hd|rfl
  .obtain⟨b',e1,e2⟩:=hs.mark i hd hm;exact⟨b',(mV hn hd).trans e1,by show w'.heap[b']?=_;rw[h.block b' (fX e2) yo];exact e2⟩
  .have h':c.σ[i]?=some .mark:=hm;rw[ho]at h';simp at h'
 .intro i st fr ps asg bd hd hm;rcases hd with hd|rfl
  .obtain⟨b',r,e1,e2,e3,e4,e5,e6,e7⟩:=hs.loop i st fr ps asg bd hd hm;exact⟨b',r,(mV hn hd).trans e1,by show w'.heap[b']?=_;rw[h.block b' (fX e2) yo];exact e2,e3,e4,e5,e6.nV nv,e7⟩
  .have h':c.σ[i]?=some (.loop st fr ps asg bd):=hm;rw[ho]at h';simp at h'
 .intro i j b' hd hd' hne mD mW;rcases hd with hd|rfl
  .rw[mV hn hd]at mD;rcases hd' with hd' | rfl
   .rw[mV hn hd']at mW;exact hs.inj i j b' hd hd' hne mD mW
   .rw[O3]at mW;simp[aW]at mW;have:=hs.lt i b' hd mD;omega
  .rw[O3]at mD;simp[aW]at mD;rcases hd' with hd' | rfl
   .rw[mV hn hd']at mW;have:=hs.lt j b' hd' mW;omega
   .exact hne rfl
 .intro i b' hd mD;rcases hd with hd|rfl
  .rw[mV hn hd]at mD;exact yBO (hs.lt i b' hd mD) h.size
  .rw[O3]at mD;simp[aW]at mD;subst mD;exact fX hw
 .intro i hd;rcases hd with hd|rfl
  .exact hs.aZ i hd
  .exact(yA.1 ho).1
 .exact λa ha=>hs.fresh a (yBe h.size ha)
theorem Nx.nU{c0:Cx}{w':World}{v:Value}{id:Nat}{p:PD}(n0:Nx fl c0 c)(hn:¬c.D id)(ho:c.σ[id]?=some (.box p))(h:c.w.grownBy w' none)(hv:∀b,aW v=some b->c.w.heap.size<=b)
  (hid:c0.σ.length<=id):Nx fl c0 (c.nU w' id v) where
 X:=n0.X
 os:=h.os.trans n0.os
 tape:=h.tape.trans n0.tape
 output:=h.output.trans n0.output
 size:=yBe n0.size h.size
 len:=n0.len
 cell:=λa u ha hu=>let ⟨q1,q2⟩:=n0.cell a u ha hu;(Nv.nU hn ho h hv).cell a u q1 q2
 aZ:=λi hd=>.inl (n0.aZ i hd)
 new:=λi hd=>by rcases hd with hd|rfl;exact n0.new i hd;exact .inr hid
 vI:=λi q hd hq=>by
  obtain⟨e,q',lM⟩:=n0.vI i q hd hq;exact⟨(mV hn (n0.aZ i hd)).trans e,q',lM⟩
 mU:=λi hd hk=>by
  obtain⟨e,hk'⟩:=n0.mU i hd hk;exact⟨(mV hn (n0.aZ i hd)).trans e,hk'⟩
 xZ:=λi e s n hd hk=>by
  obtain⟨n',h1,h2,h3⟩:=n0.xZ i e s n hd hk;exact⟨n',h1,h2,λhh=>(mV hn (n0.aZ i hd)).trans (h3 hh)⟩
 x5:=λi e s v cs hd hk=>by
  obtain⟨v0,cs0,h1,h2,h3⟩:=n0.x5 i e s v cs hd hk;exact⟨v0,cs0,h1,h2,λhh=>(mV hn (n0.aZ i hd)).trans (h3 hh)⟩
 back:=λi b hd hb hlt=>by
  rcases hd with hd|rfl
  .rw[mV hn hd]at hb;exact n0.back i b hd hb hlt
  .rw[O3]at hb;have:=hv b hb;have:=n0.size;omega
 frame:=λk hk hx=>(h.block k (yBO hk n0.size) yo).trans (n0.frame k hk hx)
 ro:=n0.ro
 hole:=n0.hole
def Cx.ahead(c:Cx)(l:List U):Cx:={ c with σ:=c.σ++l }
theorem x8{l:Dp}{id:Nat}(h:id<c.σ.length):(c.ahead l).σ[id]?=c.σ[id]?:=by simp[Cx.ahead,yAg h]
theorem Nx.ahead(hs:Sr c)(l:List U):Nx fl c (c.ahead l) where
 X:=rfl
 os:=rfl
 tape:=rfl
 output:=rfl
 size:=yAk _
 len:=by simp[Cx.ahead]
 cell:=λa v ha hv=>⟨⟨ha.1,λid o hd ho=>ha.2 id o hd (by rw[x8 (hs.aZ id hd)]at ho;exact ho)⟩,hv⟩
 aZ:=λ_ h=>h
 new:=λ_ h=>.inl h
 vI:=λid p hd h=>⟨rfl,p,Cn⟩
 mU:=λid hd h=>⟨rfl,Cn⟩
 xZ:=λid e s n hd h=>⟨n,Cn,yAk _,λ_=>rfl⟩
 x5:=λid e s v cs hd h=>⟨v,cs,by rw[x8 (hs.aZ id hd)]at h;exact h,yAk _,λ_=>rfl⟩
 back:=λ_ _ h h' _=>⟨h,h'⟩
 frame:=λ_ _ _=>rfl
 ro:=λid _ h=>x8 h
 hole:=λid h _=>x8 h
theorem Sr.ahead(hs:Sr c)(l:List U):Sr (c.ahead l) where
 box:=λid p hd hp=>by
  rw[x8 (hs.aZ id hd)]at hp;obtain⟨b,cs,T,e1,e2,e3,e4⟩:=hs.box id p hd hp;exact⟨b,cs,T,e1,e2,e3.mono (Nx.ahead (fl:=0) hs l),e4⟩
 own:=λid e size n hd ho=>by rw[x8 (hs.aZ id hd)]at ho;exact hs.own id e size n hd ho
 row:=λid e size ver ds hd ho=>by
  rw[x8 (hs.aZ id hd)]at ho;obtain⟨b,C,cur,e1,e2,e3,e4,e5,e6,e7,e8⟩:=hs.row id e size ver ds hd ho;exact⟨b,C,cur,e1,e2,e3,e4,e5,e6,e7.mono (Nx.ahead (fl:=0) hs l),e8⟩
 map:=λid es hd ho=>by
  rw[x8 (hs.aZ id hd)]at ho;obtain⟨b,ents,clock,e1,e2,e3,e4⟩:=hs.map id es hd ho;exact⟨b,ents,clock,e1,e2,e3.mono (Nx.ahead (fl:=0) hs l),e4.mono (Nx.ahead (fl:=0) hs l)⟩
 mark:=λid hd hm=>by rw[x8 (hs.aZ id hd)]at hm;exact hs.mark id hd hm
 loop:=λid st fr ps asg bd hd hl=>by
  rw[x8 (hs.aZ id hd)]at hl;obtain⟨b,r,e1,e2,e3,e4,e5,e6,e7⟩:=hs.loop id st fr ps asg bd hd hl;exact⟨b,r,e1,e2,e3,e4,e5,e6.mono (Nx.ahead (fl:=0) hs l),e7⟩
 inj:=hs.inj
 lt:=hs.lt
 aZ:=λid hd=>by have:=hs.aZ id hd;simp[Cx.ahead];omega
 fresh:=hs.fresh
 iG:=hs.iG.mono (Nx.ahead (fl:=0) hs l)
end
end
section
open Go.RowKit
theorem aTd{acc:List Nat}{o:Oper}{k:Nat}(h:(J8 acc o).testBit k=true) :
  ∃e∈o.after,Region.binds .any e=true/\(e.on=k\/(acc.getD e.on 0).testBit k=true):=by
 have key:∀(l:List Edge) (s:Nat),(l.foldl (λs e=>if Region.binds .any e then s ||| 2^e.on ||| acc.getD e.on 0 else s) s).testBit k=true ->
   s.testBit k=true\/∃e∈l,Region.binds .any e=true/\(e.on=k\/(acc.getD e.on 0).testBit k=true):=by
  intro l
  induction l with
  |nil=>intro s h;exact .inl h
  |cons e l ih=>
   intro s h;simp only[yDc]at h;rcases ih _ h with h1 | ⟨e',h2,h3⟩
   .split at h1
    .rename_i hb;simp only[Nat.testBit_or,Nat.testBit_two_pow,yBi,yBC]at h1;rcases h1 with(h1|h1)|h1
     .exact .inl h1
     .exact .inr ⟨e,yo,hb,.inl h1⟩
     .exact .inr ⟨e,yo,hb,.inr h1⟩
    .exact .inl h1
   .exact .inr ⟨e',by simp[h2],h3⟩
 rcases key _ _ h with h1 | ⟨e,h2,h3⟩
 .simp at h1
 .exact⟨e,yBV.1 h2,h3⟩
theorem aE5:∀(l:List Oper) (acc:List Nat),(bU l acc).take acc.length=acc
 | [],acc=>by simp[bU]
 |o::r,acc=>by
  have:=aE5 r (acc++[J8 acc o]);simp only[bU];have h2:acc.length<=(acc++[J8 acc o]).length:=yo;have h3:=yAP (List.take acc.length) this;rw[yDv,yCC h2]at h3;rw[h3];simp
theorem aKb:∀(l:List Oper) (acc:List Nat) (i:Nat),(bU l acc)[acc.length+i]?=(l[i]?).map λo=>J8 ((bU l acc).take (acc.length+i)) o
 | [],acc,i=>by simp[bU]
 |o::r,acc,0=>by
  have h1:=aE5 (o::r) acc;have h2:=aE5 r (acc++[J8 acc o]);simp only[yCc,h1,yBD,yAC];have h3:(bU (o::r) acc)[acc.length]?=((bU r (acc++[J8 acc o])).take (acc++[J8 acc o]).length)[acc.length]?:=by
   rw[yAv,yAJ yo];rfl
  rw[h3,h2];simp
 |o::r,acc,i+1=>by
  have:=aKb r (acc++[J8 acc o]) i;simp only[yAa,yBh]at this;simp only[bU,yBT];rw[show acc.length+(i+1)=acc.length+1+i by omega];exact this
section
variable{ops:Du}
theorem aE6{i k:Nat}(h:((bU ops.toList []).getD i 0).testBit k=true) :
  ∃o,ops[i]?=some o/\∃e∈o.after,Region.binds .any e=true/\(e.on=k\/(((bU ops.toList []).take i).getD e.on 0).testBit k=true):=by
 have h1:=aKb ops.toList [] i;simp only[yAL,yAp,yCi]at h1;rw[yAA,h1]at h;cases ho:ops[i]? with
 |none=>rw[ho]at h;simp at h
 |some o=>
  rw[ho]at h;simp only[yAC,yCa]at h;exact⟨o,rfl,aTd h⟩
theorem aE7{l:List Nat}{i j:Nat}(h:j<i):(l.take i).getD j 0=l.getD j 0:=by
 simp[yAA,h]
structure sY (ops:Array Oper) (ms:List Nat):Prop where
 a7p:Region.noSelect ops=true
 shape:∀(i:Nat) (o:Oper),ops[i]?=some o->(dF o.op||dE o.op||bT o.op||jO o.op||dJ o.op)=true
 once:∀(i:Nat) (o:Oper) (j:Nat) (oj:Oper) (d:Tmp),ops[i]?=some o->ops[j]?=some oj->j≠i->oj.dst=some d->o.dst≠some d
 looks:∀(i:Nat) (o:Oper) (j:Nat) (oj:Oper) (d:Tmp),ops[i]?=some o->ops[j]?=some oj->j≠i->oj.dst=some d->d∈o.looksAt ops ->
  (j<i->∃e∈o.after,Region.binds .any e=true/\e.on=j)/\(i<j->∃e∈oj.after,Region.binds .any e=true/\e.on=i)
 down:∀(i:Nat) (o:Oper),ops[i]?=some o->∀e∈o.after,Region.binds .any e=true->e.on<i
 ord:∀(i:Nat) (o:Oper) (j:Nat) (oj:Oper),ops[i]?=some o->ops[j]?=some oj->dJ o.op=true->dJ oj.op=true->j<i->(ms.getD i 0).testBit j=true
theorem aBY{f:Op->Bool}{i:Nat}{o:Oper}(h:ops[i]?=some o):eL f ops.toList i=f o.op:=by
 simp[eL,h]
theorem pP{i:Nat}{o:Oper}(h:ops[i]?=some o):i<ops.size:=(yDr.1 h).1
theorem MK{ms:List Nat}(h:EM ops ms=true):sY ops ms:=by
 simp only[EM,yAr,yAn,yAY]at h;obtain⟨h0,h⟩:=h;have at':∀(i:Nat) (o:Oper),ops[i]?=some o->_:=λi o ho=>by
  have:=h i (pP ho);simp only[ho,yAr]at this;exact this
 have ssa:∀(i:Nat) (o:Oper) (j:Nat) (oj:Oper) (d:Tmp),ops[i]?=some o->ops[j]?=some oj->j≠i->oj.dst=some d->_:=λi o j oj d ho hoj hne hd=>by
  have:=(at' i o ho).1.1.2;simp only[aKc,yAn,yAY]at this;have:=this j (pP hoj);simp only[hoj,hd,yBi,yBI,hne,false_or,yAr]at this;exact this
 refine⟨h0,λi o ho=>(at' i o ho).1.1.1,?_,?_,?_,?_⟩
 .intro i o j oj d ho hoj hne hd;simpa using(ssa i o j oj d ho hoj hne hd).1
 .intro i o j oj d ho hoj hne hd hl;have:=(ssa i o j oj d ho hoj hne hd).2;simp only[yBu,List.contains_eq_mem,decide_eq_false_iff_not,hl,yBr,false_or]at this;refine⟨λhlt=>?_,λhlt=>?_⟩
  .rw[yAJ hlt]at this;exact oh
  .rw[yAI ym]at this;exact oh
 .intro i o ho e he hb;have:=Array.all_eq_true'.1 (at' i o ho).1.2 e he;simpa [hb]using this
 .intro i o j oj ho hoj hw hwj hlt;have:=(at' i o ho).2;simp only[hw,yBH,yC,yAn,yAY]at this;have:=this j hlt;rw[aBY hoj,hwj]at this;exact bp
def Lt(listed:Array Bool)(i:Nat):Prop:=listed[i]?=some true
def aBZ(ops:Array Oper)(S:Nat->Prop):Prop:=∀(i:Nat) (o:Oper),S i->ops[i]?=some o->∀e∈o.after,Region.binds .any e=true->S e.on
theorem aJ5(hr:∀(i:Nat) (o:Oper),ops[i]?=some o->∀e∈o.after,Region.binds .any e=true->e.on<i):∀(i k:Nat),((bU ops.toList []).getD i 0).testBit k=true->k<i:=by
 intro i
 induction i using Nat.strongRecOn with
 |_ i ih=>
  intro k h;obtain⟨o,ho,e,he,hb,h⟩:=aE6 h;have hlt:=hr i o ho e he hb;rcases h with rfl|h
  .exact hlt
  .rw[aE7 hlt]at h;exact Nat.lt_trans (ih _ hlt _ h) hlt
theorem aJ6(hr:∀(i:Nat) (o:Oper),ops[i]?=some o->∀e∈o.after,Region.binds .any e=true->e.on<i){S:Nat->Prop}(hS:aBZ ops S):∀(i k:Nat),S i->((bU ops.toList []).getD i 0).testBit k=true->S k:=by
 intro i
 induction i using Nat.strongRecOn with
 |_ i ih=>
  intro k hi h;obtain⟨o,ho,e,he,hb,h⟩:=aE6 h;have hlt:=hr i o ho e he hb;have hs:=hS i o hi ho e he hb;rcases h with rfl|h
  .exact hs
  .rw[aE7 hlt]at h;exact ih _ hlt _ hs h
theorem aJ1(hr:∀(i:Nat) (o:Oper),ops[i]?=some o->∀e∈o.after,Region.binds .any e=true->e.on<i){S:Nat->Prop}(hS:aBZ ops S){i k:Nat}{o:Oper}(ho:ops[i]?=some o)
  (hi:∀e∈o.after,Region.binds .any e=true->S e.on) (h:((bU ops.toList []).getD i 0).testBit k=true):S k:=by
 obtain⟨o',ho',e,he,hb,h⟩:=aE6 h;rw[ho]at ho';simp only[yAb]at ho';subst ho';have hlt:=hr i o ho e he hb;rcases h with rfl|h
 .exact hi e he hb
 .rw[aE7 hlt]at h;exact aJ6 hr hS _ _ (hi e he hb) h
structure oK (ops:Array Oper) (ps:Nat->PD) (iP:List PD) (S:Nat->Prop) (fr:List PD):Prop where
 len:fr.length=iP.length
 slot:∀x,(∃(j:Nat) (o:Oper),ops[j]?=some o/\S j/\o.dst=some x/\(x<iP.length->fr[x]?=some (ps j)))\/((∀(j:Nat) (o:Oper),ops[j]?=some o->S j->o.dst≠some x)/\fr[x]?=iP[x]?)
variable{ps:Nat->PD}{iP fr fr':Dq}{S T:Nat->Prop}
theorem oK.start(h:∀j,¬S j):oK ops ps iP S iP:=⟨rfl,λ_=>.inr ⟨λj _ _ hj=>absurd hj (h j),rfl⟩⟩
theorem oK.aSZ(h:oK ops ps iP S fr){d:Nat}(hd:∀o∈ops,o.dst≠some d):fr[d]?=iP[d]?:=by
 rcases h.slot d with⟨j,o,ho,_,he,_⟩ | ⟨_,e⟩
 .exact absurd he (hd o (yCX ho))
 .exact e
theorem oK.congr(h:oK ops ps iP S fr)(hST:∀j,S j↔T j):oK ops ps iP T fr:=
 ⟨h.len,λx=>(h.slot x).imp (λ⟨j,o,a,b,r⟩=>⟨j,o,a,(hST j).1 b,r⟩) (λ⟨a,b⟩=>⟨λj o ho hj=>a j o ho ((hST j).2 hj),b⟩)⟩
theorem oK.put{ms:List Nat}(hr:sY ops ms)(h:oK ops ps iP S fr){i:Nat}{o:Oper}(ho:ops[i]?=some o):oK ops ps iP (λj=>S j\/j=i) (aM fr o.dst (ps i)):=by
 cases hd:o.dst with
 |none=>
  refine⟨h.len,λx=>(h.slot x).imp (λ⟨j,o',a,b,r⟩=>⟨j,o',a,.inl b,r⟩) (λ⟨a,b⟩=>⟨λj o' ho' hj=>?_,b⟩)⟩;rcases hj with hj|rfl
  .exact a j o' ho' hj
  .rw[ho]at ho';simp only[yAb]at ho';subst ho';rw[hd];simp
 |some d=>
  refine⟨by simpa [aM]using h.len,λx=>?_⟩
  by_cases e:x=d
  .subst e;exact .inl ⟨i,o,ho,.inr rfl,hd,λhx=>by simp[aM,yCA,h.len,hx]⟩
  .have hne:(aM fr (some d) (ps i))[x]?=fr[x]?:=by simp[aM,yAd (yBd e)]
   rw[hne];refine(h.slot x).imp (λ⟨j,o',a,b,r⟩=>⟨j,o',a,.inl b,r⟩) (λ⟨a,b⟩=>⟨λj o' ho' hj=>?_,b⟩);rcases hj with hj|rfl
   .exact a j o' ho' hj
   .rw[ho]at ho';simp only[yAb]at ho';subst ho';rw[hd];simpa using yBd e
theorem oK.agree{ms:List Nat}(hr:sY ops ms)(h:oK ops ps iP S fr)(h':oK ops ps iP T fr'){x:Nat}(hx:∀(j:Nat) (o:Oper),ops[j]?=some o->o.dst=some x->(S j↔T j)):fr[x]?=fr'[x]?:=by
 rcases h.slot x with⟨j,o,ho,hj,hd,hv⟩ | ⟨hno,hv⟩
 .rcases h'.slot x with⟨j',o',ho',hj',hd',jR⟩ | ⟨aKd,jR⟩
  .have:j'=j:=by
    rcases Nat.decEq j' j with hne|heq
    .exact absurd hd (hr.once j o j' o' x ho ho' hne hd')
    .exact heq
   subst this;rcases yBF x iP.length with hlt|hge
   .rw[hv hlt,jR hlt]
   .rw[yBo (by rw[h.len];exact hge),yBo (by rw[h'.len];exact hge)]
  .exact absurd hd (aKd j o ho ((hx j o ho hd).1 hj))
 .rcases h'.slot x with⟨j',o',ho',hj',hd',jR⟩ | ⟨aKd,jR⟩
  .exact absurd hd' (hno j' o' ho' ((hx j' o' ho' hd').2 hj'))
  .rw[hv,jR]
theorem oK.same{ms:List Nat}(hr:sY ops ms)(h:oK ops ps iP S fr)(h':oK ops ps iP T fr')(hx:∀(j:Nat) (o:Oper),ops[j]?=some o->(S j↔T j)):fr=fr':=
 yBS λ_=>h.agree hr h' λj o ho _=>hx j o ho
def fY(ops:List Oper)(i:Nat):Nat:=((ops.take i).filter λo=>bT o.op).length
theorem aB1{l:List Oper}{i:Nat}{o:Oper}(h:l[i]?=some o):fY l (i+1)=fY l i+if bT o.op then 1 else 0:=by
 unfold fY;rw[List.take_add_one,h];simp only[Option.toList_some,List.filter_append,yAa]
 congr 1
 by_cases hs:bT o.op=true<;>simp[hs]
theorem aKe{l:List Oper}{i j:Nat}(h:i<=j):fY l i<=fY l j:=by
 unfold fY;have:l.take i=(l.take j).take i:=by rw[yDv,yCC h]
 rw[this];exact((List.take_sublist i (l.take j)).filter _).length_le
theorem aS2{l:List Oper}{i j:Nat}{o oj:Oper}(hi:l[i]?=some o)(hj:l[j]?=some oj)(hs:bT o.op=true)(hsj:bT oj.op=true)(hne:i≠j):fY l i≠fY l j:=by
 rcases Nat.lt_or_gt_of_ne hne with h|h
 .have:=aKe (l:=l) (Nat.succ_le_of_lt h);rw[Nat.succ_eq_add_one,aB1 hi,yAJ hs]at this;omega
 .have:=aKe (l:=l) (Nat.succ_le_of_lt h);rw[Nat.succ_eq_add_one,aB1 hj,yAJ hsj]at this;omega
theorem aE2{P:Program}:∀ {l:List Oper} {hs:Dp},j6 P l=some hs->∀(i:Nat) (o:Oper) (t:TypeId),l[i]?=some o->o.op=.alloc t ->
  ∃z,dT P t=some z/\z.cells.all PD.plain=true/\hs[fY l i]?=some (.box (boxed t z))
 | [],hs,h,i,o,t,hi,_=>by simp at hi
 |o'::r,hs,h,0,o,t,hi,ht=>by
  simp only[yBD,yAb]at hi;subst hi;unfold j6 at h;rw[ht]at h;simp only at h;split at h
  .rename_i p l hp hl;split at h
   .rename_i hpl;simp only[yAb]at h;subst h;exact⟨p,hp,hpl,by simp[fY]⟩
   .exact ah
  .exact ah
 |o'::r,hs,h,i+1,o,t,hi,ht=>by
  simp only[yBT]at hi;unfold j6 at h;split at h
  .rename_i t' ht';split at h
   .rename_i p l hp hl;split at h
    .rename_i hpl;simp only[yAb]at h;subst h;obtain⟨z,h1,h2,h3⟩:=aE2 hl i o t hi ht;refine⟨z,h1,h2,?_⟩;have:fY (o'::r) (i+1)=fY r i+1:=by simp[fY,ht',bT]
     rw[this,yBT];exact h3
    .exact ah
   .exact ah
  .rename_i hne;obtain⟨z,h1,h2,h3⟩:=aE2 h i o t hi ht;refine⟨z,h1,h2,?_⟩;have hna:bT o'.op=false:=by
    cases ho:o'.op<;>first|rfl|exact absurd ho (hne _)
   have:fY (o'::r) (i+1)=fY r i:=by simp[fY,hna]
   rw[this];exact h3
structure ZB (P:Program) (call:b9) (fl:Nat) (ops:Array Oper) (ms:List Nat) (k0:Nat) (frs:Nat->List PD) (σs:Nat->List U) (ps:Nat->PD) (ft:Nat->Option Nat) (z:Nat->Bool) (i:Nat) (o:Oper):Prop where
 put:frs (i+1)=aM (frs i) o.dst (ps i)
 run:Region.wanted o (bA ops (frs i))=true->eF P call fl (z i) (k0+fY ops.toList i) (frs i) (σs i) o.op=some (ps i,σs (i+1))/\ft i=nL (frs i) o.op
 skip:Region.wanted o (bA ops (frs i))=false->ps i=.aI []/\σs (i+1)=σs i
theorem aS6{P:Program}{call:b9}{fl k0:Nat}{ms:List Nat}:∀(l:List Oper) (i k:Nat) (fr:List PD) (σ:List U) (tr:List TE) (fr':List PD) (σ':List U),ops.toList.drop i=l->k=k0+fY ops.toList i ->
  eM P call fl ops ms i k l fr σ=some (tr,fr',σ')->∃(frs:Nat->List PD) (σs:Nat->List U) (ps:Nat->PD) (ft:Nat->Option Nat),frs i=fr/\σs i=σ/\frs (i+l.length)=fr'/\σs (i+l.length)=σ' /\
   (∀(j:Nat) (o:Oper),i<=j->ops[j]?=some o->ZB P call fl ops ms k0 frs σs ps ft (λi=>gH ops.toList ms i) j o)/\(∀j,i<=j->j<i+l.length->ft j=(tr[j-i]?).bind TE.iQ):=by
 intro l
 induction l with
 |nil=>
  intro i k fr σ tr fr' σ' hdrop hk h;simp only[eM,yAb,yAc]at h;obtain⟨rfl,rfl,rfl⟩:=h;refine⟨λ_=>fr,λ_=>σ,λ_=>default,λ_=>none,rfl,rfl,rfl,rfl,λj o hj ho=>?_,λj h1 h2=>absurd h2 zc⟩;exact qh
 |cons o rest ih=>
  intro i k fr σ tr fr' σ' hdrop hk h;have ho:ops[i]?=some o:=by
   exact vu
  have xV:ops.toList.drop (i+1)=rest:=by rw[<-yBq,hdrop];rfl
  have hk':(if bT o.op then k+1 else k)=k0+fY ops.toList (i+1):=by
   rw[aB1 Aq,hk];split<;>omega
  simp only[eM]at h;have lift:∀(p:PD) (σ1:List U) (iQ:Option Nat) (oL:List TE),eM P call fl ops ms (i+1) (if bT o.op then k+1 else k) rest (aM fr o.dst p) σ1=some (oL,fr',σ') ->
    tr=⟨fr,σ,p,iQ⟩::oL->(Region.wanted o (bA ops fr)=true->eF P call fl (gH ops.toList ms i) (k0+fY ops.toList i) fr σ o.op=some (p,σ1)/\iQ=nL fr o.op) ->
    (Region.wanted o (bA ops fr)=false->p=.aI []/\σ1=σ)->∃(frs:Nat->List PD) (σs:Nat->List U) (ps:Nat->PD) (ft:Nat->Option Nat),frs i=fr/\σs i=σ/\frs (i+(o::rest).length)=fr'/\σs (i+(o::rest).length)=σ' /\
   (∀(j:Nat) (o:Oper),i<=j->ops[j]?=some o->ZB P call fl ops ms k0 frs σs ps ft (λi=>gH ops.toList ms i) j o)/\(∀j,i<=j->j<i+(o::rest).length->ft j=(tr[j-i]?).bind TE.iQ):=by
   intro p σ1 iQ oL h1 htr hrun hskip;obtain⟨frs,σs,ps,ft,e1,e2,e3,e4,h5,h6⟩:=ih (i+1) _ _ _ _ _ _ xV hk' h1;refine⟨λj=>if j=i then fr else frs j,λj=>if j=i then σ else σs j,λj=>if j=i then p else ps j,λj=>if j=i then iQ else ft j,yo,yo,?_,?_,?_,?_⟩
   .exact kj
   .exact ko
   .intro j oj hj hoj
    by_cases e:j=i
    .exact dz
    .have h7:=h5 j oj ym hoj;have hne:j+1≠i:=ym;refine⟨?_,?_,?_⟩
     .simp only[yAI e,yAI hne];exact h7.put
     .simp only[yAI e,yAI hne];exact h7.run
     .simp only[yAI e,yAI hne];exact h7.skip
   .exact iz
  exact vo
theorem aS7{P:Program}{call:b9}{fl k0:Nat}{ms:List Nat}:∀(l:List Oper) (i k:Nat) (fr:List PD) (σ:List U) (tr:List TE) (fr':List PD) (σ':List U),ops.toList.drop i=l->k=k0+fY ops.toList i ->
  pQ P call fl ops i k l fr σ=some (tr,fr',σ')->∃(frs:Nat->List PD) (σs:Nat->List U) (ps:Nat->PD) (ft:Nat->Option Nat),frs i=fr/\σs i=σ/\frs (i+l.length)=fr'/\σs (i+l.length)=σ' /\
   (∀(j:Nat) (o:Oper),i<=j->ops[j]?=some o->ZB P call fl ops ms k0 frs σs ps ft (λ_=>true) j o)/\(∀j,i<=j->j<i+l.length->ft j=(tr[j-i]?).bind TE.iQ)/\(∀j,i<=j->σs j=TE.at tr σ' (j-i)):=by
 intro l
 induction l with
 |nil=>
  intro i k fr σ tr fr' σ' hdrop hk h;simp only[pQ,yAb,yAc]at h;obtain⟨rfl,rfl,rfl⟩:=h;refine⟨λ_=>fr,λ_=>σ,λ_=>default,λ_=>none,rfl,rfl,rfl,rfl,λj o hj ho=>?_,λj h1 h2=>absurd h2 zc,λj _=>by simp[TE.at]⟩;exact qh
 |cons o rest ih=>
  intro i k fr σ tr fr' σ' hdrop hk h;have ho:ops[i]?=some o:=by
   exact vu
  have xV:ops.toList.drop (i+1)=rest:=by rw[<-yBq,hdrop];rfl
  have hk':(if bT o.op then k+1 else k)=k0+fY ops.toList (i+1):=by
   rw[aB1 Aq,hk];split<;>omega
  simp only[pQ]at h;have lift:∀(p:PD) (σ1:List U) (iQ:Option Nat) (oL:List TE),pQ P call fl ops (i+1) (if bT o.op then k+1 else k) rest (aM fr o.dst p) σ1=some (oL,fr',σ') ->
    tr=⟨fr,σ,p,iQ⟩::oL->(Region.wanted o (bA ops fr)=true->eF P call fl (true) (k0+fY ops.toList i) fr σ o.op=some (p,σ1)/\iQ=nL fr o.op) ->
    (Region.wanted o (bA ops fr)=false->p=.aI []/\σ1=σ)->∃(frs:Nat->List PD) (σs:Nat->List U) (ps:Nat->PD) (ft:Nat->Option Nat),frs i=fr/\σs i=σ/\frs (i+(o::rest).length)=fr'/\σs (i+(o::rest).length)=σ' /\
   (∀(j:Nat) (o:Oper),i<=j->ops[j]?=some o->ZB P call fl ops ms k0 frs σs ps ft (λ_=>true) j o)/\(∀j,i<=j->j<i+(o::rest).length->ft j=(tr[j-i]?).bind TE.iQ)/\(∀j,i<=j->σs j=TE.at tr σ' (j-i)):=by
   intro p σ1 iQ oL h1 htr hrun hskip;obtain⟨frs,σs,ps,ft,e1,e2,e3,e4,h5,h6,h7⟩:=ih (i+1) _ _ _ _ _ _ xV hk' h1;refine⟨λj=>if j=i then fr else frs j,λj=>if j=i then σ else σs j,λj=>if j=i then p else ps j,λj=>if j=i then iQ else ft j,yo,yo,?_,?_,?_,?_,?_⟩
   .exact kj
   .exact ko
   .intro j oj hj hoj
    by_cases e:j=i
    .exact dz
    .have h8:=h5 j oj ym hoj;have hne:j+1≠i:=ym;refine⟨?_,?_,?_⟩
     .simp only[yAI e,yAI hne];exact h8.put
     .simp only[yAI e,yAI hne];exact h8.run
     .simp only[yAI e,yAI hne];exact h8.skip
   .exact iz
   .intro j hj
    by_cases e:j=i
    .subst e;simp[htr,TE.at]
    .simp only[yAI e];rw[h7 j ym,htr,show j-i=(j-(i+1))+1 by omega];simp[TE.at]
  exact vo
end
end
section
open Go.RowKit
section
variable{P:Program}{call:b9}{fl k:Nat}{free:Bool}{fr:Dq}{σ σ':Dp}{op:Op}{p:PD}
theorem YW(h:dE op=true\/jO op=true\/eU op=true):dB P fr op=none/\dO fr op=none/\dF op=false/\bT op=false/\cR op=false:=by
 by_cases hc:∃s d x,op=.convert s d x
 .obtain⟨s,d,x,rfl⟩:=hc;have ht:QV s d=true:=by rcases h with h|h|h<;>first|exact h|cases h
  exact⟨by simp only[dB,ht,yAM],rfl,by simp only[dF,ht,yBH],rfl,rfl⟩
 cases op<;>simp[dE,jO,eU]at h hc<;>simp[dB,dO,dF,bT,cR]
theorem aJM(h:dF op=true):dO fr op=none/\bT op=false/\dJ op=false/\dE op=false:=by
 by_cases hc:∃s d x,op=.convert s d x
 .obtain⟨s,d,x,rfl⟩:=hc;have ht:QV s d=false:=by simpa only[dF,yBu]using h
  exact⟨rfl,rfl,rfl,ht⟩
 cases op<;>simp[dF]at h hc<;>simp[dO,bT,dJ,eU,cR,dE]
 rename_i c;obtain⟨callee,args,ts⟩:=c;cases callee<;>simp at h ⊢
 rename_i b;cases b<;>simp at h ⊢
theorem aS9(h:cR op=true):dF op=false/\bT op=false/\dE op=false/\eU op=false:=by
 cases op<;>simp[cR]at h<;>simp[dF,bT,dE,eU]
 rename_i c;obtain⟨callee,args,ts⟩:=c;cases callee with
 |value f=>rfl
 |invoke r m=>simp at h
 |builtin b=>cases b<;>simp at h ⊢
theorem aS0(h:bT op=true):dF op=false/\dJ op=false/\dE op=false/\∃t,op=.alloc t:=by
 cases op<;>simp[bT]at h<;>simp[dF,dJ,eU,cR,dE]
theorem aTa{t e:TypeId}{n:Nat}(hn:n≠0)(ht:aE3 t=false):xS P σ t e n n=(xS P [] t e n n).map λr=>(r.1,σ):=by
 unfold xS;cases P.info? e<;>cases bI P e<;>cases dT P e<;>simp only[yDt]
 split
 .simp only[hn,false_and,yAO,yAM,ht,yAx,yAC]
 .rfl
theorem aEy{t:TypeId}{a b:Operand}(h:aE4 t a b=true):∃q:Option PD,∀(fl:Nat) (fr:List PD) (σ:List U),cO P fl fr σ (.makeSlice t a b)=q.map λp=>(p,σ):=by
 unfold aE4 at h;split at h
 .rename_i l _ k;simp only[yAr,yBC,yBu]at h;obtain⟨⟨rfl,hl⟩,ht⟩:=h;have h0:0<=l:=ym;have hn:l.toNat≠0:=ym;cases hu:P.underlying t with
  |none=>exact⟨none,λfl fr σ=>by simp only[cO,hu];rfl⟩
  |some d=>
   cases d with
   |slice e=>
    refine⟨(xS P [] t e l.toNat l.toNat).map (·.1),λfl fr σ=>?_⟩;have hv:∀k,gN (aT fr (.const (.int k l)))=some l.toNat:=λk=>by
     show(if 0<=l then some l.toNat else none)=_
     rw[yAJ h0]
    simp only[cO,hu,hv];rw[aTa hn ht,Option.map_map];rfl
   |_=>exact⟨none,λfl fr σ=>by simp only[cO,hu];rfl⟩
 .cases h
theorem aTb(hl:dE op=true\/jO op=true)(h:cO P fl fr σ op=some (p,σ')):σ'=σ:=by
 by_cases hc:∃s d x,op=.convert s d x
 .obtain⟨s,d,x,rfl⟩:=hc;simp only[cO]at h
  repeat' split at h
  all_goals first
   |(simp only[yAb,yAc]at h;exact h.2.symm)
   |(cases h;done)
 cases op<;>simp[dE,jO]at hl hc
 .exact wm
 .exact wm
 .rename_i t x y;obtain⟨q,hq⟩:=aEy (P:=P) hl;rw[hq]at h;cases q with
  |none=>cases h
  |some q=>simp only[yAC,yAb,yAc]at h;exact h.2.symm
theorem aTc(hl:eU op=true)(h:cO P fl fr σ op=some (p,σ')):∃id o,nL fr op=some id/\σ'=σ.set id o:=by
 cases op<;>simp[eU]at hl
 rename_i t x y;simp only[cO]at h;split at h
 .rename_i a q h1 h2;split at h
  .rename_i s hs;simp only[yAb,yAc]at h;obtain⟨rfl,rfl⟩:=h;unfold qO at hs;split at hs
   .rename_i id off;split at hs
    .exact gy
    .simp at hs
   .rename_i id ver off;exact gy
   .simp at hs
  .exact ah
 .exact ah
theorem aKa(hs:(dF op||dE op||bT op||jO op||dJ op)=true)(hw:dJ op=false)(h:eF P call fl free k fr σ op=some (p,σ')):σ'=σ:=by
 unfold eF at h;split at h
 .split at h
  .exact mh
  .exact ah
 .rename_i hA;split at h
  .exact mh
  .rename_i hB;have hm:cR op=false:=by simp[dJ]at hw;exact hw.2
   rw[hm]at h;simp only[yCh,yAx,yAO]at h;refine aTb ?_ h;simp[hw,yBZ]at hs hA hB;rw[hA,hB]at hs;simpa using hs
end
section
variable{P:Program}{call:b9}{fl k0:Nat}{ops:Du}{ms:List Nat}{frs:Nat->Dq}{σs:Nat->Dp}{ps:Nat->PD}{ft:Nat->Option Nat}{z:Nat->Bool}
def pN(P:Program)(call:b9)(fl:Nat)(ops:Array Oper)(ms:List Nat)(k0:Nat)(frs:Nat->List PD)(σs:Nat->List U)(ps:Nat->PD)(ft:Nat->Option Nat)(z:Nat->Bool):Prop:=
 ∀(i:Nat) (o:Oper),ops[i]?=some o->ZB P call fl ops ms k0 frs σs ps ft z i o
theorem pN.still(hr:sY ops ms)(ht:pN P call fl ops ms k0 frs σs ps ft z){i:Nat}{o:Oper}(ho:ops[i]?=some o)(hw:dJ o.op=false):σs (i+1)=σs i:=by
 cases hwt:Region.wanted o (bA ops (frs i))with
 |true=>exact aKa (hr.shape i o ho) hw ((ht i o ho).run hwt).1
 |false=>exact((ht i o ho).skip hwt).2
theorem pN.aEZ(hr:sY ops ms)(ht:pN P call fl ops ms k0 frs σs ps ft z){i:Nat}:∀(d:Nat),i+d<=ops.size->(∀j o,i<=j->j<i+d->ops[j]?=some o->dJ o.op=false)->σs (i+d)=σs i
 |0,_,_=>rfl
 |d+1,hn,h=>by
  have ih:=ht.aEZ hr d ym λj o h1 h2 ho=>h j o h1 ym ho
  have ho:ops[i+d]?=some ops[i+d]:=yCj ym;rw[show i+(d+1)=i+d+1 by omega,ht.still hr ho (h _ _ ym ym ho),ih]
def ZA(ops:Array Oper)(ms:List Nat)(ft:Nat->Option Nat)(z:Nat->Bool)(σs:Nat->List U):Prop:=
 (∀(k i:Nat) (ok oi:Oper),ops[k]?=some ok->ops[i]?=some oi->eU ok.op=true->dE oi.op=true->loose ms i k=true->∀a b,ft i=some a->ft k=some b->a≠b) /\
 ∀(k i:Nat) (ok oi:Oper) (id:Nat),ops[k]?=some ok->ops[i]?=some oi->cR ok.op=true->dE oi.op=true->loose ms i k=true->z k=true->ft i=some id ->
  (σs k).length<=(σs (k+1)).length/\(id<(σs k).length->(σs (k+1))[id]?=(σs k)[id]?)
theorem pN.loose(hr:sY ops ms)(ht:pN P call fl ops ms k0 frs σs ps ft z)(hf:ZA ops ms ft z σs){i id:Nat}{oi:Oper}(hi:ops[i]?=some oi)(hl:dE oi.op=true)(hid:ft i=some id)
  {k:Nat} {o:Oper} (ho:ops[k]?=some o) (hk:dJ o.op=true->Kz.loose ms i k=true) (hlt:id<(σs k).length):(σs (k+1))[id]?=(σs k)[id]?/\(σs k).length<=(σs (k+1)).length:=by
 cases hw:dJ o.op with
 |false=>rw[ht.still hr ho hw];exact⟨rfl,yAk _⟩
 |true=>
  have hloose:=hk hw;cases hwt:Region.wanted o (bA ops (frs k))with
  |false=>rw[((ht k o ho).skip hwt).2];exact⟨rfl,yAk _⟩
  |true=>
   obtain⟨hrun,hfoot⟩:=(ht k o ho).run hwt;simp only[dJ,yBi]at hw;rcases hw with hst|hmv
   .obtain⟨_,_,hA,hB,hM⟩:=YW (P:=P) (fr:=frs k) (.inr (.inr hst));unfold eF at hrun;simp only[hA,hB,hM,yAx,yAO,yCh]at hrun;obtain⟨id',o',h1,h2⟩:=aTc hst hrun;have hne:id≠id':=hf.1 k i o oi ho hi hst hl hloose id id' hid (hfoot.trans h1);rw[h2];exact⟨yAd (yBd hne),yo⟩
   .obtain⟨hA,hB,_,_⟩:=aS9 hmv;cases hfree:z k with
    |true=>
     obtain⟨q1,q2⟩:=hf.2 k i o oi id ho hi hmv hl hloose hfree hid;exact⟨q2 hlt,q1⟩
    |false=>
    rw[hfree]at hrun;unfold eF at hrun;simp only[hA,hB,hmv,yAx,yAO,yBW,yCb,yAM]at hrun;split at hrun
    .rename_i p σ1 hst;simp only[yAb,yAc]at hrun;rw[<-hrun.2];exact⟨by rw[yAg hlt],yo⟩
    .simp at hrun
theorem pN.aE1(hr:sY ops ms)(ht:pN P call fl ops ms k0 frs σs ps ft z)(hf:ZA ops ms ft z σs){i id:Nat}{oi:Oper}(hi:ops[i]?=some oi)(hl:dE oi.op=true)(hid:ft i=some id){m:Nat} :
  ∀(d:Nat),m+d<=ops.size->(∀k o,m<=k->k<m+d->ops[k]?=some o->dJ o.op=true->Kz.loose ms i k=true)->id<(σs m).length->(σs (m+d))[id]?=(σs m)[id]?/\(σs m).length<=(σs (m+d)).length
 |0,_,_,_=>⟨rfl,yAk _⟩
 |d+1,hn,h,hlt=>by
  obtain⟨h1,h2⟩:=ht.aE1 hr hf hi hl hid d ym (λk o a b=>h k o a ym) hlt;have ho:ops[m+d]?=some ops[m+d]:=yCj ym;obtain⟨h3,h4⟩:=ht.loose hr hf hi hl hid ho (λhw=>h _ _ ym ym ho hw) ym;exact⟨h3.trans h1,yBe h2 h4⟩
theorem pN.KD(hr:sY ops ms)(ht:pN P call fl ops ms k0 frs σs ps ft z):∀(i:Nat),i<=ops.size->oK ops ps (frs 0) (· < i) (frs i)
 |0,_=>.start λj=>yDu j
 |i+1,h=>by
  have ho:ops[i]?=some ops[i]:=yCj ym;have ih:=ht.KD hr i ym;rw[(ht i _ ho).put];exact(ih.put hr ho).congr λj=>ym
theorem aSV(hr:sY ops ms)(ht:pN P call fl ops ms k0 frs σs ps ft z){S:Nat->Prop}{fr:Dq}(hS:aBZ ops S)(hsl:oK ops ps (frs 0) S fr){i:Nat}{o:Oper}(ho:ops[i]?=some o)(hni:¬S i)
  (hready:∀e∈o.after,Region.binds .any e=true->S e.on) {x:Nat} (hx:x∈o.looksAt ops):fr[x]?=(frs i)[x]?:=by
 refine hsl.agree hr (ht.KD hr i (yDe (pP ho))) λj oj hoj hd=>?_
 rcases Nat.lt_trichotomy j i with hlt|rfl|hgt
 .obtain⟨e,he,hb,heq⟩:=(hr.looks i o j oj x ho hoj ym hd hx).1 hlt;exact⟨λ_=>hlt,λ_=>heq▸hready e he hb⟩
 .exact⟨λh=>absurd h hni,λh=>absurd h (Nat.lt_irrefl _)⟩
 .obtain⟨e,he,hb,heq⟩:=(hr.looks i o j oj x ho hoj ym hd hx).2 hgt;exact⟨λh=>absurd (heq▸hS j oj h hoj e he hb) hni,λh=>absurd h ym⟩
theorem aSW{fr fr':Dq}{o:Oper}(h:∀x∈o.looksAt ops,fr[x]?=fr'[x]?):∀x∈o.op.operands,aT fr x=aT fr' x:=by
 intro x hx;cases x with
 |tmp t=>
  have:t∈o.looksAt ops:=List.mem_append_left _ (yDQ.2 ⟨.tmp t,Ac,rfl⟩);simp only[aT,yAA,h t this]
 |_=>rfl
theorem aSX{fr fr':Dq}{o:Oper}(h:∀x∈o.looksAt ops,fr[x]?=fr'[x]?):Region.wanted o (bA ops fr)=Region.wanted o (bA ops fr'):=by
 unfold Region.wanted;cases hg:o.guard with
 |none=>rfl
 |some gb=>
  obtain⟨g,b⟩:=gb;simp only;have:bA ops fr g=bA ops fr' g:=by
   unfold bA;cases hd:(ops[g]?).bind (·.dst)with
   |none=>rfl
   |some d=>
    have hm:d∈o.looksAt ops:=yDR _ (by rw[hg];simp[hd]);simp only[h d hm]
  rw[this]
structure Inv (P:Program) (fl:Nat) (ops:Array Oper) (c0:Cx) (iP:List PD) (σs:Nat->List U) (ps:Nat->PD) (df:List Deferred) (listed:Array Bool) (a:Act) (c:Cx) (fr:List PD) (b:Nat):Prop where
 size:listed.size=ops.size
 closed:aBZ ops (Lt listed)
 sr:Sr c
 nx:Nx fl c0 c
 σ:c.σ=σs b
 bN:b<=ops.size
 front:∀(j:Nat) (o:Oper),ops[j]?=some o->dJ o.op=true->(Lt listed j↔j<b)
 Q6:∀(i:Nat) (o:Oper) (t:TypeId),ops[i]?=some o->o.op=.alloc t->¬Lt listed i->¬c.D (c0.σ.length+fY ops.toList i)/\∃z,dT P t=some z/\z.cells.all PD.plain=true/\c.σ[c0.σ.length+fY ops.toList i]?=some (.box (boxed t z))
 KD:oK ops ps iP (Lt listed) fr
 fr:FR c a fr
 df:a.defers=df
theorem aB0{listed:Array Bool}{i j:Nat}(hi:i<listed.size):Lt (listed.setIfInBounds i true) j↔Lt listed j\/j=i:=by
 unfold Lt
 by_cases e:i=j
 .subst e;simp[hi]
 .rw[Array.getElem?_setIfInBounds_ne e];exact⟨.inl,λh=>h.elim id (λh=>absurd h.symm e)⟩
theorem Inv.step{c0:Cx}{iP:Dq}{df:List Deferred}{listed:Array Bool}{a:Act}{c:Cx}{fr:Dq}{b:Nat}(hr:sY ops ms)(hi:Inv P fl ops c0 iP σs ps df listed a c fr b){i b':Nat}{o:Oper}(ho:ops[i]?=some o)
  (hready:∀e∈o.after,Region.binds .any e=true->Lt listed e.on) {c':Cx} {v:Value} (hs':Sr c') (nx':Nx fl c0 c') (oJ:c'.σ=σs b') (hb':b'<=ops.size)
  (hfront:∀(j:Nat) (o:Oper),ops[j]?=some o->dJ o.op=true->((Lt listed j\/j=i)↔j<b'))
  (hholes:∀(j:Nat) (o:Oper) (t:TypeId),ops[j]?=some o->o.op=.alloc t->¬Lt listed j->j≠i->¬c'.D (c0.σ.length+fY ops.toList j)/\∃z,dT P t=some z/\z.cells.all PD.plain=true/\c'.σ[c0.σ.length+fY ops.toList j]?=some (.box (boxed t z)))
  (hf':FR c' a fr) (hv:VR c' v (ps i)):Inv P fl ops c0 iP σs ps df (listed.setIfInBounds i true) (a.put o.dst v) c' (aM fr o.dst (ps i)) b':=by
 have hlt:i<listed.size:=Dd;refine⟨by simpa using hi.size,?_,hs',nx',oJ,hb',?_,?_,?_,hf'.put hv _,?_⟩
 .intro j oj hj hoj e he hb;rw[aB0 hlt]at hj ⊢;rcases hj with hj|rfl
  .exact .inl (hi.closed j oj hj hoj e he hb)
  .rw[ho]at hoj;simp only[yAb]at hoj;subst hoj;exact .inl (hready e he hb)
 .intro j oj hoj hw;rw[aB0 hlt];exact hfront j oj hoj hw
 .intro j oj t hoj ht hn;rw[aB0 hlt]at hn;exact hholes j oj t hoj ht (λh=>hn (.inl h)) (λh=>hn (.inr h))
 .exact(hi.KD.put hr ho).congr λj=>(aB0 hlt).symm
 .rw[<-hi.df];cases o.dst<;>rfl
end
end
section
open Go.RowKit
theorem aJs{P:Program}{σ σ':Dp}{t:TypeId}{a p:PD}(h:kW P σ t a=some p)(he:∀id,j7 a=some id->σ'[id]?=σ[id]?):kW P σ' t a=some p:=by
 unfold kW at h ⊢;cases a<;>simp only at h ⊢<;>first|exact h|(simp at h;done)|skip
 .rename_i id off;rw[he id rfl];exact h
 .rename_i id ver off;rw[he id rfl];exact h
theorem aJt{P:Program}{σ:Dp}{t:TypeId}{a:PD}{id:Nat}{p:PD}(h:kW P σ t a=some p)(ha:j7 a=some id):id<σ.length:=by
 unfold kW at h;cases a<;>simp only[j7,reduceCtorEq,yAb]at ha
 .subst ha;simp only at h;exact vt
 .cases h
 .subst ha;simp only at h;exact vt
theorem VR.aSR{c:Cx}{v:Value}{a:PD}{id:Nat}(h:VR c v a)(ha:j7 a=some id):c.D id:=by
 cases a<;>simp only[j7,reduceCtorEq,yAb]at ha
 .subst ha;obtain⟨_,_,hd,_⟩:=h.qN;exact hd
 .subst ha;obtain⟨_,_,_,hd,_⟩:=h.M4;exact hd
 .subst ha;obtain⟨_,_,hd⟩:=h.UR;exact hd.1
theorem aSS{σ σ':Dp}{a:PD}{xs:Dq}(h:EZ σ a=some xs)(he:∀id,j7 a=some id->σ'[id]?=σ[id]?):EZ σ' a=some xs:=by
 unfold EZ at h ⊢;cases a<;>simp only at h ⊢<;>first|exact h|(simp at h;done)|skip
 rename_i id off n size;rw[he id rfl];exact h
theorem aJw{σ:Dp}{a:PD}{id:Nat}{xs:Dq}(h:EZ σ a=some xs)(ha:j7 a=some id):id<σ.length:=by
 unfold EZ at h;cases a<;>simp only[j7,reduceCtorEq,yAb]at ha
 .cases h
 .subst ha;simp only at h;split at h
  .exact vt
  .exact ah
 .cases h
theorem aEx{P:Program}{σ:Dp}{s d:TypeId}{a p:PD}(h:O1 P σ s d a=some p):∃xs,EZ σ a=some xs:=by
 unfold O1 at h;cases hx:EZ σ a with
 |none=>rw[hx]at h;cases h
 |some xs=>exact⟨xs,rfl⟩
theorem aJv{P:Program}{σ σ':Dp}{s d:TypeId}{a p:PD}(h:O1 P σ s d a=some p)(he:∀id,j7 a=some id->σ'[id]?=σ[id]?):O1 P σ' s d a=some p:=by
 obtain⟨xs,hx⟩:=aEx h;unfold O1 at h ⊢;rw[aSS hx he];rw[hx]at h;exact h
section
variable{F:Fence}{P:Program}{call:b9}{fl n:Nat}{Q:Exit->Act->World->Prop}{ops:Du}{frs:Nat->Dq}{σs:Nat->Dp}{ps:Nat->PD}{ft:Nat->Option Nat}{z:Nat->Bool}
 {c0:Cx} {df:List Deferred}
theorem aST{Pp:Cx->List PanicEntry->World->Prop}(hF:Open F P)(hc:Ok F P call Pp)(hr:sY ops (bU ops.toList []))(ht:pN P call fl ops (bU ops.toList []) c0.σ.length frs σs ps ft z)(hfeet:ZA ops (bU ops.toList []) ft z σs)
  (hs0:Sr c0) (pO:Xw fl c0) {listed:Array Bool} {a:Act} {c:Cx} {fr:Dq} {b:Nat} (hi:Inv P fl ops c0 (frs 0) σs ps df listed a c fr b) {i:Nat} (hmem:i∈Region.ready .any ops listed) {K:Act->World->Prop}
  (hK:∀a' c' fr' b',Inv P fl ops c0 (frs 0) σs ps df (listed.setIfInBounds i true) a' c' fr' b'->K a' c'.w)
  (hR:∀(c:Cx) (a':Act) (fr':List PD) ch w',Sr c->Nx fl c0 c->FR c a' fr'->(∀d,(∀o∈ops,o.dst≠some d)->fr'[d]?=(frs 0)[d]?)->a'.defers=df->Pp c ch w'->Q (.panic ch) a' w'):wpOpIn F n P ops Q i K a c.w:=by
 obtain⟨hun,o,ho,aSU⟩:=mem_ready.1 hmem;have hlt:i<ops.size:=pP ho;have hni:¬Lt listed i:=by
  intro h;unfold Lt at h;rw[yCB,h]at hun;cases hun
 have hready:∀e∈o.after,Region.binds .any e=true->Lt listed e.on:=λe he hb=>by
  have:=aSU e he hb;rw[yCB]at this;unfold Lt;cases hx:listed[e.on]? with
  |none=>rw[hx]at this;cases this
  |some t=>rw[hx]at this;simp at this;rw[this]
 have agree:=λx hx=>aSV hr ht hi.closed hi.KD ho hni hready (x:=x) hx
 have ev:=aSW agree;have hlen:fr.length=(frs i).length:=hi.KD.len.trans (ht.KD hr i (yDe hlt)).len.symm;have hXc:Xw fl c:=pO.next hs0 hi.nx;have hXm:Xw (max fl c.σ.length) c:=λid g hd hle _ _ _=>absurd (hi.sr.aZ id hd) ym
 have frontN:dJ o.op=false->∀(j:Nat) (oj:Oper),ops[j]?=some oj->dJ oj.op=true->((Lt listed j\/j=i)↔j<b):=λhw j oj hoj hwj=>by
  have hne:j≠i:=by rintro rfl;rw[ho]at hoj;simp only[yAb]at hoj;subst hoj;rw[hw]at hwj;cases hwj
  rw[<-hi.front j oj hoj hwj];simp[hne]
 have wb:dJ o.op=true->b<=i:=λhw=>by
  rcases yBF i b with h|h
  .exact absurd ((hi.front i o ho hw).2 h) hni
  .exact h
 have wlow:dJ o.op=true->∀(j:Nat) (oj:Oper),ops[j]?=some oj->dJ oj.op=true->j<i->Lt listed j:=λhw j oj hoj hwj hji=>
  aJ1 hr.down hi.closed ho hready (hr.ord i o j oj ho hoj hw hwj hji)
 have frontW:dJ o.op=true->∀(j:Nat) (oj:Oper),ops[j]?=some oj->dJ oj.op=true->((Lt listed j\/j=i)↔j<i+1):=λhw j oj hoj hwj=>by
  constructor
  .rintro(h|rfl)
   .have:=(hi.front j oj hoj hwj).1 h;have:=wb hw;omega
   .omega
  .intro h;rcases yBF j i with h' | h'
   .exact .inl (wlow hw j oj hoj hwj h')
   .exact .inr ym
 have σW:dJ o.op=true->c.σ=σs i:=λhw=>by
  have hle:=wb hw;rw[hi.σ];have:=ht.aEZ hr (i:=b) (i-b) ym λj oj h1 h2 hoj=>by
   cases hwj:dJ oj.op with
   |false=>rfl
   |true=>exact absurd ((hi.front j oj hoj hwj).1 (wlow hw j oj hoj hwj ym)) ym
  rw[show b+(i-b)=i by omega]at this;exact this.symm
 have Q6:∀ {cE:Nat} {c':Cx},Nx cE c c'->∀(j:Nat) (oj:Oper) (t:TypeId),ops[j]?=some oj->oj.op=.alloc t->¬Lt listed j->j≠i ->
   ¬c'.D (c0.σ.length+fY ops.toList j)/\∃z,dT P t=some z/\z.cells.all PD.plain=true/\c'.σ[c0.σ.length+fY ops.toList j]?=some (.box (boxed t z)):=λnx j oj t hoj hot hnl _=>by
  obtain⟨hnd,z,h1,h2,h3⟩:=hi.Q6 j oj t hoj hot hnl;have hl:=(yA.1 h3).1;exact⟨λhd=>(nx.new _ hd).elim hnd (λh=>ym),z,h1,h2,(nx.hole _ hl hnd).trans h3⟩
 unfold wpOpIn;simp only[ho];rw[aET hi.fr,aSX agree];cases hw:Region.wanted o (bA ops (frs i))with
 |false=>
  obtain⟨hp,oJ⟩:=(ht i o ho).skip hw;simp only[yAx,yAO];refine⟨λf _=>hF.fn f,?_⟩;cases hW:dJ o.op with
  |false=>exact hK _ c _ b (hi.step hr ho hready hi.sr hi.nx hi.σ hi.bN (frontN hW) (Q6 (.refl 0 c)) hi.fr (by rw[hp];exact VR.undef c))
  |true=>exact hK _ c _ (i+1) (hi.step hr ho hready hi.sr hi.nx ((σW hW).trans oJ.symm) hlt (frontW hW) (Q6 (.refl 0 c)) hi.fr (by rw[hp];exact VR.undef c))
 |true=>
  obtain⟨hrun,hfoot⟩:=(ht i o ho).run hw;simp only[yAM];have gen:∀(cE b':Nat) (σ1:List U),fl<=cE->Xw cE c->bK P call cE fr c.σ o.op=some (ps i,σ1)->(∀c',Nx cE c c'->c'.σ=σ1->c'.σ=σs b')->b'<=ops.size ->
    (∀(j:Nat) (oj:Oper),ops[j]?=some oj->dJ oj.op=true->((Lt listed j\/j=i)↔j<b'))->o.wpIn F n P a c.w K Q:=by
   intro cE b' σ1 hle hX' hst aSY hb' hfront;refine aEU hF hc hi.sr hX' hi.fr hst (λv w' hl=>?_) (λch w' h=>hR c a fr ch w' hi.sr hi.nx hi.fr (λd hd=>hi.KD.aSZ hd) hi.df h);obtain⟨c',rfl,e,hs',nx,hv,_⟩:=hl;exact hK _ c' _ b' (hi.step hr ho hready hs' (hi.nx.trans (nx.weaken hle)) (aSY c' nx e) hb' hfront (Q6 nx) (hi.fr.mono nx) hv)
  unfold eF at hrun
  by_cases hA:dF o.op=true
  .obtain⟨hpc,_,hW,_⟩:=aJM (fr:=fr) hA;rw[yAJ hA]at hrun;split at hrun
   .rename_i p hp;simp only[yAb,yAc]at hrun;obtain⟨rfl,_⟩:=hrun;refine gen fl b c.σ (yAk _) hXc ?_ (λc' _ e=>e.trans hi.σ) hi.bN (frontN hW);unfold bK pop;rw[hpc,aJ2 _ ev,hp]
   .simp at hrun
  .simp only[yBZ]at hA;rw[hA]at hrun;simp only[yAx,yAO]at hrun
   by_cases hB:bT o.op=true
   .obtain⟨_,hW,_,t,hop⟩:=aS0 hB;rw[yAJ hB]at hrun;simp only[yAb,yAc]at hrun;obtain⟨hp,_⟩:=hrun;obtain⟨hnd,z,hz,hpl,hbox⟩:=hi.Q6 i o t ho hop hni;obtain⟨zv,inf,hinf,hzv,hzr⟩:=O2 (c:=c) hz;have vG:=(aE0 (P:=P) (fl:=fl) hi.sr (aBV hz hinf hzv t) (aK.G3 hzr.cells hpl) t (λt' ds e=>aBW hzr e)).1;have hrun:(execOp a.eval o).run P c.w=.ok (.value (.pointer (some ⟨c.w.heap.size,0,none⟩))) (c.w.alloc (.cells zv.cells t)):=by
     obtain⟨dst,op,ty,pos,after,guard⟩:=o;simp only at hop;subst hop;simp[execOp,Instr.alloc,zeroValue,typeInfo,hinf,hzv,vG]
    refine⟨λf _=>hF.fn f,?_⟩;rw[yDb _ _ _ (by rw[hop];intro d e;cases e),hrun];have hg:c.w.grownBy (c.w.alloc (.cells zv.cells t)) none:=KB _ _;have fQ:∀b',aW (.pointer (some ⟨c.w.heap.size,0,none⟩))=some b'->c.w.heap.size<=b':=λb' hb=>Bb
    have hnv:Nv c (c.nU (c.w.alloc (.cells zv.cells t)) (c0.σ.length+fY ops.toList i) (.pointer (some ⟨c.w.heap.size,0,none⟩))):=Nv.nU hnd hbox hg fQ;refine hK _ (c.nU (c.w.alloc (.cells zv.cells t)) (c0.σ.length+fY ops.toList i) (.pointer (some ⟨c.w.heap.size,0,none⟩))) _ b
     (hi.step hr ho hready (hi.sr.nU hnd hbox hg (yAk _) (yBL _ _) (aBV hz hinf hzv t) ⟨aK.G3 hzr.cells hpl,λt' ds e=>aBW hzr e⟩) (hi.nx.nU hnd hbox hg fQ ym) hi.σ hi.bN (frontN hW) ?_ ⟨aK.nV hnv hi.fr.1,(hi.sr.nU hnd hbox hg (yAk _) (yBL _ _) (aBV hz hinf hzv t) ⟨aK.G3 hzr.cells hpl,λt' ds e=>aBW hzr e⟩).iG⟩ ?_)
    .intro j oj t' hoj hot hnl hne;obtain⟨aS1,z',h1,h2,h3⟩:=hi.Q6 j oj t' hoj hot hnl;refine⟨λhd=>?_,z',h1,h2,h3⟩;rcases hd with hd|hd
     .exact aS1 hd
     .exact aS2 (l:=ops.toList) (by simpa using hoj) Aq (by rw[hot];rfl) hB hne ym
    .rw[<-hp];exact .ptr _ _ _ (.inr rfl) ⟨_,hbox⟩ O3
   .simp only[yBZ]at hB;rw[hB]at hrun;simp only[yAx,yAO]at hrun
    by_cases hM:cR o.op=true
    .have hW:dJ o.op=true:=by simp[dJ,hM]
     have oJ:=σW hW;rw[hM]at hrun;cases hfree:z i with
     |true=>
      rw[hfree]at hrun;simp only[yBH,Bool.and_false,yAx,yAO,yAM]at hrun;refine gen fl (i+1) (σs (i+1)) (yAk _) hXc ?_ (λc' _ e=>e) hlt (frontW hW);rw[aJ3 hlen _ ev,oJ];exact hrun
     |false=>
      rw[hfree]at hrun;simp only[yBW,yCb,yAM]at hrun;split at hrun
      .rename_i p σ1 hst;simp only[yAb,yAc]at hrun;obtain⟨rfl,aS3⟩:=hrun;refine gen (max fl c.σ.length) (i+1) σ1 ym hXm ?_ (λc' nx e=>?_) hlt (frontW hW)
       .rw[aJ3 hlen _ ev,oJ];exact hst
       .rw[<-aS3,<-e,<-oJ];refine yBS λid=>?_
        rcases yBF id c.σ.length with h|h
        .rw[yAg h];exact nx.ro id ym h
        .rw[yCo h,yBy]
         congr 1;omega
      .simp at hrun
    .simp only[yBZ]at hM;rw[hM]at hrun;simp only[yCh,yAx,yAO]at hrun;have hsh:=hr.shape i o ho;simp only[hA,hB,dJ,hM,yC,yCZ,yBi]at hsh
     by_cases hst:eU o.op=true
     .have hW:dJ o.op=true:=by simp[dJ,hst]
      obtain⟨fQ,O4,_⟩:=YW (P:=P) (fr:=fr) (.inr (.inr hst));refine gen fl (i+1) (σs (i+1)) (yAk _) hXc ?_ (λc' _ e=>e) hlt (frontW hW);unfold bK pop;rw[O4,fQ];simp only;rw[aBX hlen _ ev,σW hW];exact hrun
     .have hW:dJ o.op=false:=by simp[dJ,hM,hst]
      by_cases hL:dE o.op=true
      .obtain⟨fQ,O4,_⟩:=YW (P:=P) (fr:=fr) (.inl hL);refine gen fl b c.σ (yAk _) hXc ?_ (λc' _ e=>e.trans hi.σ) hi.bN (frontN hW);unfold bK pop;rw[O4,fQ];simp only;rw[aBX hlen _ ev];obtain⟨dst,op,ty,pos,after,guard⟩:=o;have aJ4:∀x ad,op.operands=#[x]->aT (frs i) x=some ad->(nL (frs i) op=j7 ad)->(∀id,j7 ad=some id->id<(σs i).length)->∀id,j7 ad=some id->c.σ[id]?=(σs i)[id]?:=by
        intro x ad hopx had hfe hltA id hida;have hfid:ft i=some id:=by rw[hfoot,hfe,hida]
        rcases yBF i b with hib|hbi
        .have h1:=(ht.aE1 hr hfeet ho hL hfid (m:=i) (b-i) (by have:=hi.bN;omega) (λk ok h1 h2 hok hwk=>by
          have hk:Lt listed k:=(hi.front k ok hok hwk).2 ym;unfold loose;simp only[yAr,yBu,];refine⟨?_,?_⟩
          .cases hx:((bU ops.toList []).getD i 0).testBit k with
           |false=>rfl
           |true=>exact absurd (aJ5 hr.down i k hx) ym
          .cases hx:((bU ops.toList []).getD k 0).testBit i with
           |false=>rfl
           |true=>exact absurd (aJ6 hr.down hi.closed k i hk hx) hni) (hltA id hida)).1
         rw[show i+(b-i)=b by omega]at h1;rw[hi.σ];exact h1
        .have hd:id<(σs b).length:=by
          have hev:aT fr x=some ad:=by
           rw[ev x (by rw[hopx];simp)];exact had
          have hd:=(cY hi.fr hev).aSR hida;rw[<-hi.σ];exact hi.sr.aZ id hd
         have h1:=(ht.aE1 hr hfeet ho hL hfid (m:=b) (i-b) ym (λk ok h1 h2 hok hwk=>by
          have hk:¬Lt listed k:=λhk=>absurd ((hi.front k ok hok hwk).1 hk) ym
          unfold loose;simp only[yAr,yBu,];refine⟨?_,?_⟩
          .cases hx:((bU ops.toList []).getD i 0).testBit k with
           |false=>rfl
           |true=>exact absurd (aJ1 hr.down hi.closed ho hready hx) hk
          .cases hx:((bU ops.toList []).getD k 0).testBit i with
           |false=>rfl
           |true=>exact absurd (aJ5 hr.down k i hx) ym) hd).1
         rw[show b+(i-b)=i by omega]at h1;rw[hi.σ];exact h1.symm
       by_cases hcv:∃s d x,op=.convert s d x
       .obtain⟨s,d,x,rfl⟩:=hcv;simp only[cO]at hrun ⊢;split at hrun
        .rename_i htc;rw[yAJ htc];split at hrun
         .rename_i ad had;split at hrun
          .exact um
          .split at hrun
           .rename_i p hp;obtain⟨xs,hxs⟩:=aEx hp;rw[aJv hp (aJ4 x ad rfl had (by simp only[nL,had]) (λid=>aJw hxs))];exact um
           .cases hrun
         .cases hrun
        .cases hrun
       obtain⟨t,x,rfl⟩:∃t x,op=.load t x:=by cases op<;>simp[dE]at hL hcv ⊢
       simp only[cO]at hrun ⊢;split at hrun
       .rename_i ad had;split at hrun
        .rename_i p hp;simp only[yAb,yAc]at hrun;obtain⟨rfl,_⟩:=hrun;have hkeep:∀id,j7 ad=some id->c.σ[id]?=(σs i)[id]?:=aJ4 x ad rfl had (by simp only[nL,had]) (λid=>aJt hp);rw[aJs hp hkeep]
        .simp at hrun
       .simp at hrun
      .have hS:jO o.op=true:=by simpa [hL,hst]using hsh
       obtain⟨fQ,O4,_⟩:=YW (P:=P) (fr:=fr) (.inr (.inl hS));refine gen fl b c.σ (yAk _) hXc ?_ (λc' _ e=>e.trans hi.σ) hi.bN (frontN hW);unfold bK pop;rw[O4,fQ];simp only;rw[aBX hlen _ ev];obtain⟨dst,op,ty,pos,after,guard⟩:=o
       by_cases hmk:∃t x y,op=.makeSlice t x y
       .obtain⟨t,x,y,rfl⟩:=hmk;obtain⟨q,hq⟩:=aEy (P:=P) hS;simp only[hq]at hrun ⊢;cases q with
        |none=>cases hrun
        |some q=>
         simp only[yAC,yAb,yAc]at hrun ⊢;exact⟨hrun.1,trivial⟩
       obtain⟨t,ln,parts,rfl⟩:∃t ln parts,op=.buildSlice t ln parts:=by cases op<;>simp[jO]at hS hmk ⊢
       simp only[cO]at hrun ⊢;split at hrun
       .rename_i qs hqs;split at hrun
        .rename_i p hp;simp only[yAb,yAc]at hrun;obtain⟨rfl,_⟩:=hrun;rfl
        .simp at hrun
       .simp at hrun
theorem aS4(hr:sY ops (bU ops.toList []))(ht:pN P call fl ops (bU ops.toList []) c0.σ.length frs σs ps ft z){listed:Array Bool}{a:Act}{c:Cx}{fr:Dq}{b:Nat}(hi:Inv P fl ops c0 (frs 0) σs ps df listed a c fr b)
  (hnil:Region.ready .any ops listed=[]):c.σ=σs ops.size/\fr=frs ops.size:=by
 have hall:∀i,i<ops.size->Lt listed i:=by
  intro i
  induction i using Nat.strongRecOn with
  |_ i ih=>
   intro hlt;have ho:ops[i]?=some ops[i]:=yCj hlt;have hls:i<listed.size:=by rw[hi.size];exact hlt
   cases hb:listed[i]with
   |true=>unfold Lt;rw[yCj hls,hb]
   |false=>
    have:i∈Region.ready .any ops listed:=mem_ready.2 ⟨by rw[yCB,yCj hls,hb];rfl,_,ho,λe he hbd=>by
     have hd:=hr.down i _ ho e he hbd;have:=ih e.on hd ym;unfold Lt at this;rw[yCB,this];rfl⟩
    rw[hnil]at this;cases this
 constructor
 .rw[hi.σ];have:=ht.aEZ hr (i:=b) (ops.size-b) (by have:=hi.bN;omega) λj oj h1 h2 hoj=>by
   cases hwj:dJ oj.op with
   |false=>rfl
   |true=>exact absurd ((hi.front j oj hoj hwj).1 (hall j (pP hoj))) ym
  rw[show b+(ops.size-b)=ops.size by have:=hi.bN;omega]at this;exact this.symm
 .exact hi.KD.same hr (ht.KD hr ops.size (yAk _)) λj o hoj=>⟨λ_=>pP hoj,λh=>hall j h⟩
theorem aS5{Pp:Cx->List PanicEntry->World->Prop}(hF:Open F P)(hc:Ok F P call Pp)(hr:sY ops (bU ops.toList []))(ht:pN P call fl ops (bU ops.toList []) c0.σ.length frs σs ps ft z)(hfeet:ZA ops (bU ops.toList []) ft z σs)
  (hs0:Sr c0) (pO:Xw fl c0) (hQ:∀c' a',c'.σ=σs ops.size->Sr c'->Nx fl c0 c'->FR c' a' (frs ops.size)->a'.defers=df->Q .normal a' c'.w)
  (hR:∀(c:Cx) (a':Act) (fr':List PD) ch w',Sr c->Nx fl c0 c->FR c a' fr'->(∀d,(∀o∈ops,o.dst≠some d)->fr'[d]?=(frs 0)[d]?)->a'.defers=df->Pp c ch w'->Q (.panic ch) a' w') :
  ∀(fuel:Nat) (listed:Array Bool) (a:Act) (c:Cx) (fr:List PD) (b:Nat),Inv P fl ops c0 (frs 0) σs ps df listed a c fr b->listed.toList.countP (·==false)<=fuel->wpAnyIn F n P .any ops Q fuel listed a c.w:=by
 have done:∀(listed:Array Bool) (a:Act) (c:Cx) (fr:List PD) (b:Nat),Inv P fl ops c0 (frs 0) σs ps df listed a c fr b->Region.ready .any ops listed=[]->Q .normal a c.w:=by
  intro listed a c fr b hi hnil;obtain⟨e1,e2⟩:=aS4 hr ht hi hnil;exact hQ c a e1 hi.sr hi.nx (e2▸hi.fr) hi.df
 intro fuel
 induction fuel with
 |zero=>
  intro listed a c fr b hi hn;have h0:∀x∈listed.toList,¬(x==false)=true:=List.countP_eq_zero.1 (Nat.le_zero.1 hn);have hnil:Region.ready .any ops listed=[]:=by
   apply List.eq_nil_iff_forall_not_mem.2;intro i hm;obtain⟨hun,o,ho,_⟩:=mem_ready.1 hm;have hls:i<listed.size:=Dd;rw[yCB,yCj hls]at hun;exact h0 _ (yBV.2 (Array.getElem_mem hls)) (by simpa using hun)
  exact⟨hnil,done listed a c fr b hi hnil⟩
 |succ fuel ih=>
  intro listed a c fr b hi hn;refine⟨done listed a c fr b hi,λi hm=>aST hF hc hr ht hfeet hs0 pO hi hm (λa' c' fr' b' hi'=>ih _ a' c' fr' b' hi' ?_) hR⟩;obtain⟨hun,o,ho,_⟩:=mem_ready.1 hm;have hls:i<listed.size:=Dd;have hli:i<listed.toList.length:=by simpa using hls
  rw[yCB,yCj hls]at hun;simp only[yCa]at hun;rw[yDO,List.countP_set hli];have hpos:0<listed.toList.countP (·==false):=List.countP_pos_iff.2 ⟨listed[i],yBV.2 (Array.getElem_mem hls),by simp[hun]⟩;have e:listed.toList[i]=false:=by simpa using hun
  rw[e];simp only[beq_self_eq_true,yAM,show(true==false)=false from rfl,yAx,yAO];omega
theorem aJ7{Pp:Cx->List PanicEntry->World->Prop}(hF:Open F P)(hc:Ok F P call Pp){a:Act}{fr fr':Dq}{σ' hst:Dp}(hs:Sr c0)(hX:Xw fl c0)(hf:FR c0 a fr)(hr:sY ops (bU ops.toList []))(hho:j6 P ops.toList=some hst)
  {frs:Nat->Dq} {σs:Nat->Dp} {ps:Nat->PD} {ft:Nat->Option Nat} {z:Nat->Bool} (e1:frs 0=fr) (e2:σs 0=c0.σ++hst) (e3:frs ops.size=fr') (e4:σs ops.size=σ')
  (ht:pN P call fl ops (bU ops.toList []) c0.σ.length frs σs ps ft z) (hfeet:ZA ops (bU ops.toList []) ft z σs)
  (hQ:∀c' a',c'.σ=σ'->Sr c'->Nx fl c0 c'->FR c' a' fr'->a'.defers=a.defers->Q .normal a' c'.w)
  (hR:∀(c:Cx) (a':Act) (fr':List PD) ch w',Sr c->Nx fl c0 c->FR c a' fr'->(∀d,(∀o∈ops,o.dst≠some d)->fr'[d]?=fr[d]?)->a'.defers=a.defers->Pp c ch w'->Q (.panic ch) a' w'):wpAnyIn F n P .any ops Q ops.size (Array.replicate ops.size false) a c0.w:=by
 have hs':=hs.ahead hst;refine aS5 (df:=a.defers) hF hc hr ht hfeet hs hX (λc' a' h1 h2 h3 h4 h5=>hQ c' a' (h1.trans e4) h2 h3 (e3▸h4) h5) (e1▸hR) ops.size _ a (c0.ahead hst) fr 0 ?_ ?_
 .refine⟨yo,?_,hs',Nx.ahead hs hst,e2.symm,yAF _,?_,?_,?_,FR.mono (Nx.ahead (fl:=0) hs hst) hf,rfl⟩
  .intro i o hi;unfold Lt at hi;rw[yDP]at hi;split at hi<;>simp at hi
  .intro j o _ _;unfold Lt;rw[yDP];split<;>simp
  .intro i o t ho hot _;obtain⟨z,h1,h2,h3⟩:=aE2 hho i o t Aq hot;refine⟨λhd=>absurd (hs.aZ _ hd) ym,z,h1,h2,?_⟩;show(c0.σ++hst)[_]?=_
   rw[yCo ym,show c0.σ.length+fY ops.toList i-c0.σ.length=fY ops.toList i by omega];exact h3
  .rw[<-e1];refine .start λj hj=>?_
   unfold Lt at hj;rw[yDP]at hj;split at hj<;>simp at hj
 .exact yBe List.countP_le_length yo
theorem aJ8{tr:List TE}{ft:Nat->Option Nat}(hfo:qP ops.toList (bU ops.toList []) tr=true)(hft:∀j,0<=j->j<ops.size->ft j=(tr[j-0]?).bind TE.iQ) :
  ∀(k i:Nat) (ok oi:Oper),ops[k]?=some ok->ops[i]?=some oi->eU ok.op=true->dE oi.op=true->loose (bU ops.toList []) i k=true->∀a b,ft i=some a->ft k=some b->a≠b:=by
 intro k i ok oi US hoi hsk hli hloose x y hx hy;simp only[qP,yAn,yAY]at hfo;have h1:=hfo k (by simpa using pP US);rw[aBY US,hsk]at h1;simp only[yBH,yC,yAn,yAY]at h1;have h2:=h1 i (by simpa using pP hoi);rw[aBY hoi,hli,hloose]at h2;have hxi:=hft i (yAF _) (pP hoi);have hyk:=hft k (yAF _) (pP US);simp only[yDf]at hxi hyk;rw[<-hxi,<-hyk,hx,hy]at h2;simpa using h2
theorem aJQ{Pp:Cx->List PanicEntry->World->Prop}(hF:Open F P)(hc:Ok F P call Pp){a:Act}{fr fr':Dq}{σ':Dp}(hs:Sr c0)(hX:Xw fl c0)(hf:FR c0 a fr)(h:iO P call fl ops fr c0.σ=some (fr',σ'))
  (hQ:∀c' a',c'.σ=σ'->Sr c'->Nx fl c0 c'->FR c' a' fr'->a'.defers=a.defers->Q .normal a' c'.w)
  (hR:∀(c:Cx) (a':Act) (fr':List PD) ch w',Sr c->Nx fl c0 c->FR c a' fr'->(∀d,(∀o∈ops,o.dst≠some d)->fr'[d]?=fr[d]?)->a'.defers=a.defers->Pp c ch w'->Q (.panic ch) a' w':=by intro _ _ _ _ _ _ _ _ _ _ h;exact h.elim):wpAnyIn F n P .any ops Q ops.size (Array.replicate ops.size false) a c0.w:=by
 unfold iO at h;split at h
 .rename_i x h;simp only[yAb]at h;subst h;rename_i h;unfold kX at h;simp only at h;split at h
  .rename_i hok;have hr:=MK hok;split at h
   .rename_i hst hho;split at h
    .rename_i tr aH σ1 hops;split at h
     .rename_i hfo;simp only[yAb,yAc]at h;obtain⟨rfl,rfl⟩:=h;obtain⟨frs,σs,ps,ft,e1,e2,e3,e4,htr,hft⟩:=aS6 (k0:=c0.σ.length) ops.toList 0 _ _ _ _ _ _ yo (by simp[fY]) hops;simp only[yAp,yCf]at e3 e4 hft;have ht:pN P call fl ops (bU ops.toList []) c0.σ.length frs σs ps ft (λi=>gH ops.toList (bU ops.toList []) i):=λi o ho=>htr i o (yAF _) ho
      refine aJ7 hF hc hs hX hf hr hho e1 e2 e3 e4 ht ⟨aJ8 hfo hft,?_⟩ hQ hR;intro k i ok oi id US hoi hmk hli hlo hz _;simp only[gH,yAn,yAY]at hz;have:=hz i (by simpa using pP hoi);rw[aBY hoi,hli,hlo]at this;simp at this
     .exact ah
    .exact ah
   .exact ah
  .exact ah
 .split at h
  .rename_i hok;have hr:=MK hok;split at h
   .rename_i hst hho;split at h
    .rename_i tr aH σ1 hops;split at h
     .rename_i hfo;obtain⟨hfo,hkp⟩:=hfo;simp only[yAb,yAc]at h;obtain⟨rfl,rfl⟩:=h;obtain⟨frs,σs,ps,ft,e1,e2,e3,e4,htr,hft,aJ9⟩:=aS7 (k0:=c0.σ.length) (ms:=bU ops.toList []) ops.toList 0 _ _ _ _ _ _ yo (by simp[fY]) hops;simp only[yAp,yCf]at e3 e4 hft;have ht:pN P call fl ops (bU ops.toList []) c0.σ.length frs σs ps ft (λ_=>true):=λi o ho=>htr i o (yAF _) ho
      refine aJ7 hF hc hs hX hf hr hho e1 e2 e3 e4 ht ⟨aJ8 hfo hft,?_⟩ hQ hR;intro k i ok oi id US hoi hmk hli hlo _ hid;have aS8:(tr[i]?).bind TE.iQ=some id:=by
       have:=hft i (yAF _) (pP hoi);rw[yDf]at this;rw[<-this,hid]
      have:=hkp k i id ok oi (by simpa using US) (by simpa using hoi) hmk hli hlo aS8;have h1:=aJ9 k (yAF _);have h2:=aJ9 (k+1) (yAF _);simp only[yDf]at h1 h2;rw[h1,h2];exact this
     .exact ah
    .exact ah
   .exact ah
  .exact ah
end
end
section
open Go.RowKit
section
variable{F:Fence}{n:Nat}{P:Program}{Q:Exit->Act->World->Prop}{a:Act}{w:World}
def M1(F:Fence)(n:Nat)(P:Program)(c:Code)(Q:Exit->Act->World->Prop)(a:Act)(w:World):Prop:=
 ∀(b:Frame) (k:List Item) (cs:List Frame),b.roundOf=F.round->F.fn b.fn->F.room (cs.length+1+n) ->
  ∃e a' w',Q e a' w'/\ArrivesIn (Machine.fenced P F) P (lone (b.atR a (.code c::.inLoop c::k)) cs w) b k cs e a' w'
theorem M1.wpIn{c:Code}(h:M1 F n P c Q a w):(Code.loop c).wpIn F n P Q a w:=λb k cs hro hb hr=>
 let ⟨e,a',w',q,r⟩:=h b k cs hro hb hr;⟨e,a',w',q,.of_steps (.one (fenced_calm hb hr rfl) stepR_loop) r⟩
theorem M1.round{c:Code}(h:c.wpIn F n P (Exit.then (M1 F n P c Q) Q) a w):M1 F n P c Q a w:=by
 intro b k cs hro hb hr;obtain⟨e,a₁,w₁,hq,harr⟩:=h b (.inLoop c::k) cs hro hb hr;cases e with
 |normal=>
  obtain⟨e₂,a₂,w₂,hq₂,harr₂⟩:=hq b k cs hro hb hr;exact⟨e₂,a₂,w₂,hq₂,.of_steps (StepsIn.trans harr (.one (fenced_calm hb hr rfl) stepR_inLoop)) harr₂⟩
 |exit id=>exact⟨_,a₁,w₁,hq,.pass (x:=.inLoop c) rfl (λ_ _=>.inl yo) harr⟩
 |goto l=>exact⟨_,a₁,w₁,hq,.pass (x:=.inLoop c) rfl (λ_ _=>.inl yo) harr⟩
 |ret=>exact⟨_,a₁,w₁,hq,.pass (x:=.inLoop c) rfl (λ_ _=>.inl yo) harr⟩
 |panic ch=>exact⟨_,a₁,w₁,hq,.pass (x:=.inLoop c) rfl (λ_ _=>.inl yo) harr⟩
 |outgrown=>exact⟨_,a₁,w₁,hq,.pass (x:=.inLoop c) rfl (λ_ _=>.inl yo) harr⟩
def nR(F:Fence)(n:Nat)(P:Program)(c:Code)(Q:Exit->Act->World->Prop)(a:Act)(w:World):Prop:=
 match c with
 |.loop b=>M1 F n P b Q a w
 |c=>c.wpIn F n P Q a w
theorem nR.wpIn{c:Code}(h:nR F n P c Q a w):c.wpIn F n P Q a w:=by
 unfold nR at h;split at h
 .exact M1.wpIn h
 .exact h
end
def MR(B:List Deferred)(c:Cx):List Deferred->List Nat->Prop
 |ds,[]=>ds=B
 |d::ds,m::ms=>(∃b,d.target=.collected b/\c.D m/\mC c.σ[m]?/\c.ρ m=.pointer (some ⟨b,0,none⟩))/\MR B c ds ms
 | [],_::_=>False
theorem MR.mono{B:List Deferred}{fl:Nat}{c c':Cx}(nx:Nx fl c c'):∀ {ds:List Deferred} {ms:List Nat},MR B c ds ms->MR B c' ds ms
 |ds,[],h=>by
  cases ds with
  |nil=>exact h
  |cons d ds=>exact h
 |d::ds,m::ms,h=>by
  obtain⟨⟨b,h1,h2,h3,h4⟩,h5⟩:=h;obtain⟨e,k⟩:=nx.mU m h2 h3;exact⟨⟨b,h1,nx.aZ m h2,k,e.trans h4⟩,MR.mono nx h5⟩
 | [],_::_,h=>h.elim
def EW(F:Fence)(c:Cx):Option Nat->Prop
 |none=>F.round=none
 |some id=>∃l,F.round=some l/\c.D id/\mC c.σ[id]?/\c.ρ id=.pointer (some ⟨l,0,none⟩)
theorem EW.mono{fl:Nat}{F:Fence}{c c':Cx}(nx:Nx fl c c'){rd:Option Nat}(h:EW F c rd):EW F c' rd:=by
 cases rd with
 |none=>exact h
 |some id=>
  obtain⟨l,h1,h2,h3,h4⟩:=h;obtain⟨e,k⟩:=nx.mU id h2 h3;exact⟨l,h1,nx.aZ id h2,k,e.trans h4⟩
structure FRx (c:Cx) (a:Act) (x:PX) (fr:List PD):Prop where
 low:∃xX,FR c a xX/\∀i,i<7->xX[i]?=fr[i]?
 all:(∀v,x≠.panic v)->FR c a fr
theorem FRx.of{c:Cx}{a:Act}{x:PX}{fr:Dq}(h:FR c a fr):FRx c a x fr:=⟨⟨fr,h,λ_ _=>rfl⟩,λ_=>h⟩
def aEV(P:Program)(code:xY):Prop:=
 ∀ {F:Fence} {rd:Option Nat} {c:Code} {fl:Nat} {fr:Dq} {ms:List Nat} {cx:Cx} {r:PO} {a:Act} {B:List Deferred},Open F P->code rd c fl fr ms cx.σ=some r->Sr cx->Xw fl cx->FR cx a fr->MR B cx a.defers ms->EW F cx rd ->
   ∀(m:Nat) (Q:Exit->Act->World->Prop),(∀lE a',lE.σ=r.σ->Sr lE->Nx fl cx lE->FRx lE a' r.x r.fr->MR B lE a'.defers r.ms->Q r.x.YX a' lE.w)->nR F m P c Q a cx.w
section
variable{P:Program}{c:Cx}{fl:Nat}
theorem aSQ(hs:Sr c){a:Act}{fr:Dq}(hf:FR c a fr){rv:ResultVar}{p:PD}(h:EU P fr c.σ rv=some p) :
  ∃v,((match rv with|.tmp t=>pure (a.tmps.getD t undef)|.cell x t=>do loadVar t (<-asAddr (a.tmps.getD x undef)):Sem Value)).run P c.w=.ok v c.w/\VR c v p:=by
 cases rv with
 |tmp t=>
  simp only[EU,yAb]at h;subst h;exact⟨_,rfl,hf.tmp t⟩
 |cell x t=>
  simp only[EU]at h;split at h
  .rename_i id off hid;have hv:=hf.tmp x;rw[hid]at hv;obtain⟨v,r,q⟩:=aJZ (P:=P) hs h hv;obtain⟨b,e,_⟩:=hv.qN;refine⟨v,?_,q⟩;rw[e]at r;simp only[e,asAddr];simpa [Instr.loadAt,Instr.sureAddr]using r
  .exact ah
theorem aJ0(hs:Sr c){a:Act}{fr:Dq}(hf:FR c a fr){f:ResultVar->Sem Value}(hfn:∀(rv:ResultVar) (p:PD),EU P fr c.σ rv=some p->∃v,(f rv).run P c.w=.ok v c.w/\VR c v p):∀ {l:List ResultVar} {qs:Dq},pJ P fr c.σ l=some qs ->
  ∃vs:List Value,(l.mapM f).run P c.w=.ok vs c.w/\aK c vs qs
 | [],qs,h=>by
   simp only[pJ,yAb]at h;subst h;exact⟨[],by simp[List.mapM_nil],rfl,yo⟩
 |rv::l,qs,h=>by
  simp only[pJ]at h;split at h
  .rename_i p ps h1 h2;simp only[yAb]at h;subst h;obtain⟨v,r,hv⟩:=hfn rv p h1;obtain⟨vs,rs,hvs⟩:=aJ0 hs hf hfn h2;refine⟨v::vs,by simp[List.mapM_cons,yAW,r,rs,Result.andThen],by simpa using hvs.1,λi u d hu hd=>?_⟩;cases i with
   |zero=>simp at hu hd;subst hu hd;exact hv
   |succ i=>exact hvs.2 i u d Am Av
  .exact ah
theorem aEY(hs:Sr c){a:Act}{fr:Dq}(hf:FR c a fr){fn:Func}{qs:Dq}(h:pJ P fr c.σ fn.results.toList=some qs):∃v,(results fn a.tmps).run P c.w=.ok v c.w/\VR c v (OP qs):=by
 obtain⟨vs,r,hv⟩:=aJ0 hs hf (λrv p=>aSQ hs hf) h;unfold results;rw[Array.mapM_eq_mapM_toList];rw[map_eq_pure_bind];simp only[yAW]
 generalize hg:Sem.run P (List.mapM _ fn.results.toList) c.w=res
 have e:res=.ok vs c.w:=hg.symm.trans r;subst e;simp only[Result.andThen,yBb];have hl:=hv.1
 by_cases h1:vs.length=1
 .obtain⟨v,rfl⟩:∃v,vs=[v]:=by
   match vs,h1 with
   | [v],_=>exact⟨v,rfl⟩
  obtain⟨p,rfl⟩:∃p,qs=[p]:=by
   match qs,hl with
   | [p],_=>exact⟨p,rfl⟩
  exact⟨v,yo,hv.2 0 v p rfl rfl⟩
 .have e:OP qs=.aI qs:=by
   match qs,hl with
   | [],_=>rfl
   | [p],hl=>exact absurd hl h1
   |_::_::_,_=>rfl
  rw[e];refine⟨.tuple vs.toArray,?_,.aI vs qs hv.1 hv.2⟩;rw[dif_neg zo]
end
end
section
open Go.RowKit
section
variable{P:Program}{fl:Nat}
theorem aJT{b b':Nat}(h:Value.pointer (some ⟨b,0,none⟩)=Value.pointer (some ⟨b',0,none⟩)):b=b':=zw
theorem aJU{F:Fence}{n:Nat}{fn:Func}{tmps:Dt}{R:Ending->World->Prop}:∀(ms:List Nat) (ds:List Deferred) (c:Cx) (σ':List U),QY fl ms c.σ=some σ'->Sr c->MR [] c ds ms ->
  (∀c',c'.σ=σ'->Sr c'->Nx fl c c'->LeavesInM F n P fn tmps R [] .returning c'.w)->LeavesInM F n P fn tmps R ds .returning c.w
 | [],[],c,σ',h,hs,_,hR=>by
   simp only[QY,yAb]at h;exact hR c h hs (.refl _ _)
 |m::ms,d::ds,c,σ',h,hs,hm,hR=>by
  obtain⟨⟨b,h1,h2,h3,h4⟩,h5⟩:=hm;simp only[QY]at h;split at h
  .rename_i hfl;split at h
   .rename_i hmk;obtain⟨b',e1,e2⟩:=hs.mark m h2 hmk;have e:=aJT (h4.symm.trans e1);subst e;have nx:Nx fl c (c.put (c.w.putObj b (.deferred none)) m (c.ρ m) .none):=Nx.EY hs h2 hmk trivial trivial (by rw[h4];rfl) hfl e2 yo;have hs':Sr (c.put (c.w.putObj b (.deferred none)) m (c.ρ m) .none):=Sr.EY hs h2 hmk trivial trivial (by rw[h4];rfl) e2 yo trivial;refine⟨yo,.inl ⟨b,c.w.putObj b (.deferred none),h1,run_takeDeferred e2,?_⟩⟩;exact aJU ms ds _ σ' h hs' (h5.mono nx) (λc' q1 q2 q3=>hR c' q1 q2 (nx.trans q3))
   .exact ah
  .exact ah
 | [],_::_,_,_,_,_,hm,_=>by cases hm
 |_::_,[],_,_,_,_,hm,_=>hm.elim
theorem Leaves.of{c c':Cx}{p:PD}{v:Value}(hs:Sr c')(nx:Nx fl c c')(hv:VR c' v p):Leaves fl c p c'.σ v c'.w:=
 ⟨c',rfl,rfl,hs,nx,hv,λid hd=>(nx.new id hd).imp (λh=>h) (λh=>⟨h,hs.aZ id hd⟩)⟩
theorem aJV{c:Cx}:∀(ts:List Tmp) (vs:List Value) (ps:List PD) (a:List Value) (fr:List PD),aK c vs ps->aK c a fr->ts.length=vs.length->aK c ((ts.zip vs).foldl (λtmps x=>tmps.set x.1 x.2) a) (QX fr ts ps)
 | [],_,_,a,fr,_,h,_=>by simpa [QX]using h
 |t::ts,[],_,_,_,_,_,hl=>by simp at hl
 |t::ts,v::vs,[],_,_,hv,_,_=>De
 |t::ts,v::vs,p::ps,a,fr,hv,h,hl=>by
  simp only[List.zip_cons_cons,yDc,QX];refine aJV ts vs ps _ _ ⟨by simpa using hv.1,λi u d hu hd=>hv.2 (i+1) u d Am Av⟩ ⟨by simpa using h.1,λi u d hu hd=>?_⟩ Al;rw[yCA]at hu hd
  by_cases e:t=i
  .subst e;simp only[yAM]at hu hd;split at hu
   .split at hd
    .simp only[yAb]at hu hd;subst hu hd;exact hv.2 0 _ _ rfl rfl
    .simp at hd
   .simp at hu
  .rw[yAI e]at hu hd;exact h.2 i u d hu hd
theorem aJW:∀(l:List (Tmp×Value)) (a:Array Value),(l.foldl (λtmps x=>tmps.setIfInBounds x.1 x.2) a).toList=l.foldl (λtmps x=>tmps.set x.1 x.2) a.toList
 | [],a=>rfl
 |x::l,a=>by simp only[yDc];rw[aJW l];simp
theorem Q3{c:Cx}(hs:Sr c){id l:Nat}{st:UO}{fr:Dq}{ps:List Tmp}{asg bd:Code}(hd:c.D id)(ho:c.σ[id]?=some (.loop st fr ps asg bd))(hr:c.ρ id=.pointer (some ⟨l,0,none⟩)) :
  ∃r,c.w.heap[l]?=some (.loop r)/\r.params=ps.toArray/\r.assign=asg/\r.body=bd/\aK c r.tmps.toList fr/\st.fits r:=by
 obtain⟨b,r,e1,e2,e3⟩:=hs.loop id st fr ps asg bd hd ho;have e:=aJT (hr.symm.trans e1);subst e;exact⟨r,e2,e3⟩
theorem aBU{c:Cx}(hs:Sr c){id l:Nat}{st st':UO}{fr:Dq}{ps:List Tmp}{asg bd:Code}{r r':Loop}(hd:c.D id)(ho:c.σ[id]?=some (.loop st fr ps asg bd))(hr:c.ρ id=.pointer (some ⟨l,0,none⟩))(hfl:fl<=id)
  (hh:c.w.heap[l]?=some (.loop r)) (h1:r'.params=ps.toArray) (h2:r'.assign=asg) (h3:r'.body=bd) (h4:aK c r'.tmps.toList fr) (h5:st'.fits r') :
  ∃c',c'.w=c.w.putObj l (.loop r')/\c'.σ=c.σ.set id (.loop st' fr ps asg bd)/\Sr c'/\Nx fl c c':=
 ⟨c.put (c.w.putObj l (.loop r')) id (c.ρ id) (.loop st' fr ps asg bd),rfl,rfl,Sr.EY hs hd ho trivial trivial Ak hh yo ⟨hr,r',rfl,h1,h2,h3,h4,h5⟩,Nx.EY hs hd ho trivial trivial Ak hfl hh yo⟩
theorem aEO{c:Cx}(hs:Sr c){id l:Nat}{st:UO}{fr:Dq}{ps:List Tmp}{asg bd:Code}{r r':Loop}(hd:c.D id)(ho:c.σ[id]?=some (.loop st fr ps asg bd))(hr:c.ρ id=.pointer (some ⟨l,0,none⟩))(hfl:fl<=id)
  (hh:c.w.heap[l]?=some (.loop r)):∃c',c'.w=c.w.putObj l (.loop r')/\c'.σ=c.σ.set id .none/\Sr c'/\Nx fl c c':=
 ⟨c.put (c.w.putObj l (.loop r')) id (c.ρ id) .none,rfl,rfl,Sr.EY hs hd ho trivial trivial Ak hh yo trivial,Nx.EY hs hd ho trivial trivial Ak hfl hh yo⟩
theorem aSN{code:xY}(h:aEV P code){F:Fence}(hF:Open F P){id l:Nat}{args:Dq}{c:Cx}{vs:Ds}{p:PD}{σ':Dp}(hc:UP code fl id args c.σ=some (p,σ'))(hs:Sr c)(hX:Xw fl c)
  (hv:aK c vs args) (hd:c.D id) (hr:c.ρ id=.pointer (some ⟨l,0,none⟩)) :
  ∃g tmps asg bd,(Instr.yield l vs.toArray).run P c.w=.ok (.round l g tmps asg bd) c.w/\∀m,RoundIn F m P l g tmps asg bd c.w (MJ fl c p σ'):=by
 unfold UP at hc;split at hc
 .rename_i hfl;split at hc
  .rename_i fr pp asg bd hlo;split at hc
   .rename_i hlen;obtain⟨r,hh,hp,ha,hb,ht,hst⟩:=Q3 hs hd hlo hr;have hvl:=hv.1;refine⟨_,_,_,_,run_yield hh (by simp[hp,hvl,hlen]),λm=>?_⟩;have hFl:Open (F.inRound l) P:=⟨hF.fn,hF.depth,hF.name,hF.alive⟩;refine roundIn_of_wpIn (hF.fn _) ?_;split at hc
    .rename_i aH ms1 σ1 hassign;have hfr:aK c ((r.params.zip vs.toArray).foldl (λtmps x=>tmps.setIfInBounds x.1 x.2) r.tmps).toList (QX fr pp args):=by
      rw[<-Array.foldl_toList,aJW,hp];simp only[Array.toList_zip];exact aJV pp vs args _ _ hv ht (by rw[hvl,hlen])
     have hno:mC c.σ[id]?:=by rw[hlo];trivial
     refine nR.wpIn ?_;rw[ha];refine h (a:={ tmps:=_,defers:=[] }) (B:=[]) hFl hassign hs hX ⟨hfr,hs.iG⟩ rfl (⟨l,rfl,hd,hno,hr⟩:EW (F.inRound l) c (some id)) m _ λc1 a1 e1 hs1 gQ eY jI=>?_
     simp only at e1 jI;have eY:=eY.all (λ_ h=>zk);simp only at eY;simp only[PX.YX,Exit.then];obtain⟨er,aJX⟩:=gQ.mU id hd hno;have pM:=gQ.aZ id hd;have vG:=er.trans hr;split at hc
     .rename_i iP UL UM UN hlo1;rw[<-e1]at hlo1;obtain⟨r1,hh1,nS,ha1,mD,M3,aSO⟩:=Q3 hs1 pM hlo1 vG;refine⟨_,run_beginRound hh1 aSO.1,?_⟩;obtain⟨c2,w2,e2,hs2,eP⟩:=aBU (fl:=fl) hs1 (st':=.busy) (r':={ r1 with state:=.busy }) pM hlo1 vG hfl hh1 nS ha1 mD M3 rfl;have aEN:mC c2.σ[id]?:=(eP.mU id pM aJX).2;have hr2:=(eP.mU id pM aJX).1.trans vG;have kM:=eP.aZ id pM;rw[<-w2];split at hc
      .rename_i x xX ms2 σ2 hbody;rw[e1.symm,<-e2]at hbody;have Q2:=hX.next hs gQ;refine nR.wpIn ?_;rw[hb];refine h (a:=a1) hFl hbody hs2 (Q2.next hs1 eP) (FR.mono eP eY) (jI.mono eP) (⟨l,rfl,kM,aEN,hr2⟩:EW (F.inRound l) c2 (some id)) m _ λc3 a3 e3 hs3 o5 _ _=>?_
       simp only at e3;have GX:=o5.aZ id kM;have hr3:=(o5.mU id kM aEN).1.trans hr2;have aEW:Nx fl c c3:=gQ.trans (eP.trans o5);split at hc
       .rename_i fr3 Y6 as3 bd3 hlo3;rw[<-e3]at hlo3;obtain⟨r3,UQ,hp3,ha3,Y7,ht3,aJY⟩:=Q3 hs3 GX hlo3 hr3;cases x with
        |normal=>
         simp only[yAb,yAc]at hc;obtain⟨rfl,rfl⟩:=hc;obtain⟨c4,w4,e4,Y8,Y9⟩:=aBU (fl:=fl) hs3 (st':=.ready) (r':={ r3 with state:=.ready,pending:=none }) GX hlo3 hr3 hfl UQ hp3 ha3 Y7 ht3 ⟨rfl,rfl⟩;refine⟨_,_,run_endRound none UQ,?_⟩;have:=Leaves.of (p:=.bool true) (v:=.bool true) Y8 (aEW.trans Y9) (.bool true);rw[w4,e4,e3]at this;exact this
        |ret=>
         simp only[yAb,yAc]at hc;obtain⟨rfl,rfl⟩:=hc;obtain⟨c4,w4,e4,Y8,Y9⟩:=aBU (fl:=fl) hs3 (st':=.done .ret) (r':={ r3 with state:=.done,pending:=some .ret }) GX hlo3 hr3 hfl UQ hp3 ha3 Y7 ht3 ⟨rfl,rfl⟩;refine⟨_,_,run_endRound (some .ret) UQ,?_⟩;exact jy
        |exit k=>
         simp only[yAb,yAc]at hc;obtain⟨rfl,rfl⟩:=hc;obtain⟨c4,w4,e4,Y8,Y9⟩:=aBU (fl:=fl) hs3 (st':=.done (.exit k)) (r':={ r3 with state:=.done,pending:=some (.exit k) }) GX hlo3 hr3 hfl UQ hp3 ha3 Y7 ht3 ⟨rfl,rfl⟩;refine⟨_,_,run_endRound (some (.exit k)) UQ,?_⟩;exact jy
        |panic v=>simp at hc
       .simp at hc
      .simp at hc
     .simp at hc
    .simp at hc
   .simp at hc
  .simp at hc
 .simp at hc
def aSP(P:Program)(E:aE):Prop:=
 ∀ {F:Fence} {fl:Nat} {f:FuncId} {g:Dj} {args:Dq} {c:Cx} {vs:Ds} {p:PD} {σ':Dp},Open F P->E f=some g->g fl args c.σ=some (p,σ')->Sr c->Xw fl c->aK c vs args ->
   (∃fn,P.funcs[f]?=some fn/\fn.body.isSome=true)/\∀m,CallsIn F m P f vs.toArray c.w (MJ fl c p σ')
def aEX(fl:Nat)(c:Cx)(v:Value)(σ':List U):Ending->World->Prop
 |.panicked ch,w'=>ch=[{ v,recovered:=false }]/\∃c':Cx,c'.w=w'/\c'.σ=σ'/\Sr c'/\Nx fl c c'
 |_,_=>False
def aEQ(P:Program)(q:FuncId->Option (Nat->List PD->List U->Option (Value×List U))):Prop:=
 ∀ {F:Fence} {fl:Nat} {f:FuncId} {g:Nat->List PD->List U->Option (Value×List U)} {args:Dq} {c:Cx} {vs:Ds} {v:Value} {σ':Dp},Open F P->q f=some g->g fl args c.σ=some (v,σ')->Sr c->Xw fl c->aK c vs args ->
   (∃fn,P.funcs[f]?=some fn/\fn.body.isSome=true)/\∀m,CallsIn F m P f vs.toArray c.w (aEX fl c v σ')
structure aF (P:Program) (E:aE):Prop where
 ret:aSP P E
 bD:aEQ P E.bD
theorem aJR{E:aE}{code:xY}(hE:aF P E)(h:aEV P code){F:Fence}(hF:Open F P):Ok F P (oI P E code) where
 round:=λhc hs hX hv hd hr=>aSN h hF hc hs hX hv hd hr
 fn:=by
  intro fl f args c vs p σ' hc hs hX hv;simp only[oI]at hc;split at hc
  .rename_i g hg;exact hE.ret hF hg hc hs hX hv
  .unfold UI at hc;split at hc
   .rename_i fn hfn;split at hc
    .rename_i bd hbd;refine⟨⟨fn,hfn,by simp[hbd]⟩,λm=>?_⟩;split at hc
     .rename_i r hr;have vH:Open { F with round:=none } P:=⟨hF.fn,hF.depth,hF.name,hF.alive⟩;have key:CallsIn { F with round:=none } m P f vs.toArray c.w (MJ fl c p σ'):=by
       refine yDN hfn hbd (hF.fn f) (nR.wpIn ?_);have hfr:aK c (vs.toArray++Array.replicate (fn.ntmps-vs.toArray.size) undef).toList (args++List.replicate (fn.ntmps-args.length) (.aI [])):=by
        exact aj
       refine h (a:={ tmps:=_,defers:=[] }) (B:=[]) vH hr hs hX ⟨hfr,hs.iG⟩ rfl (rfl:EW { F with round:=none } c none) m _ λc1 a1 e1 hs1 gQ eY jI=>?_
       have leave:(∀k,r.x≠.exit k)->(∀v,r.x≠.panic v)->LeavesInM { F with round:=none } m P fn a1.tmps (MJ fl c p σ') a1.defers .returning c1.w:=by
        intro hx hy;unfold sX at hc;have hc:(match QY fl r.ms r.σ with
          |some σ=>match pJ P r.fr σ fn.results.toList with
           |some ps=>some (OP ps,σ)
           |none=>none
          |none=>none)=some (p,σ'):=by
         split at hc
         .rename_i k hk;exact absurd hk (hx k)
         .rename_i k hk;exact absurd hk (hy k)
         .exact hc
        split at hc
        .rename_i σ1 hdm;split at hc
         .rename_i qs hqs;simp only[yAb,yAc]at hc;obtain⟨rfl,rfl⟩:=hc;rw[<-e1]at hdm;refine aJU r.ms a1.defers c1 σ1 hdm hs1 jI λc2 e2 hs2 eP=>?_
          rw[<-e2]at hqs;obtain⟨v,rv,hvv⟩:=aEY (P:=P) hs2 (FR.mono eP (eY.all hy)) hqs;refine⟨v,rv,?_⟩;have:=Leaves.of hs2 (gQ.trans eP) hvv;rw[e2]at this;exact this
         .simp at hc
        .simp at hc
       cases hx:r.x with
       |normal=>exact leave (by rw[hx];simp) (by rw[hx];simp)
       |ret=>exact leave (by rw[hx];simp) (by rw[hx];simp)
       |panic v=>exfalso;unfold sX at hc;rw[hx]at hc;simp at hc
       |exit k=>exfalso;unfold sX at hc;rw[hx]at hc;simp at hc
      exact⟨key.1,key.2⟩
     .simp at hc
    .simp at hc
   .simp at hc
end
end
section
open Go.RowKit
section
variable{F:Fence}{P:Program}{call:b9}{fl:Nat}{B:List Deferred}
theorem aJN(hF:Open F P)(hc:Ok F P call){c1:Cx}{id l n:Nat}{a a':Act}{g:Operand}{gf:FuncId}{cap fr:Dq}{ms:List Nat}{q:PD}{σ2:Dp}{r:PO}{Q:Exit->Act->World->Prop}
  (hs1:Sr c1) (Q2:Xw fl c1) (hd:c1.D id) (hρ:c1.ρ id=.pointer (some ⟨l,0,none⟩)) (hno:mC c1.σ[id]?) (hfl:fl<=id) (hg:VR c1 (a.eval g) (.func gf cap))
  (hcall:call fl (.inl gf) (.yield id::cap) c1.σ=some (q,σ2)) (hleave:YS id fr ms σ2=some r) (hf:FR c1 a' fr) (hm:MR B c1 a'.defers ms)
  (hQ:∀lE mT,lE.σ=r.σ->Sr lE->Nx fl c1 lE->FR lE mT r.fr->MR B lE mT.defers r.ms->Q r.x.YX mT lE.w) :
  ∃(d:Deferred) (w₁':World) (f:FuncId) (args:Array Value) (w₂:World),(resolve a.eval (rangeCall g l) 0).run P c1.w=.ok d w₁'/\(∀f',Target.leads P w₁' d.target d.args=some f'->F.fn f') /\
   (invoke d.target d.args).run P w₁'=.ok (.enter f args) w₂/\(F.depth.isSome=true->1<=n)/\CallsIn F (n-1) P f args w₂ (rangePost F n P l Q a'):=by
 obtain⟨cs,e,hcs⟩:=hg.UK;have hy:VR c1 (.func (.yield l) #[] #[]) (.yield id):=.yield id l hd hno hρ;have hvs:aK c1 (.func (.yield l) #[] #[]::cs) (.yield id::cap):=⟨by simpa using hcs.1,λi u d hu hd'=>by
  cases i with
  |zero=>simp at hu hd';subst hu hd';exact hy
  |succ i=>exact hcs.2 i u d Am (by simpa using hd')⟩
 obtain⟨⟨fn,hfn,hb⟩,hcalls⟩:=hc.fn hcall hs1 Q2 hvs;have hb':fn.body.isNone=false:=Cp;have hn:=hF.name gf fn hfn;refine⟨{ target:=.fn (.func gf) cs.toArray,args:=#[.func (.yield l) #[] #[]] },c1.w,gf,(.func (.yield l) #[] #[]::cs).toArray,c1.w,?_,λf' _=>hF.fn f',?_,hF.asks,yBQ (hcalls _) λen w3 he=>?_⟩
 .simp only[rangeCall,resolve,e,Deferred.ofValue];simp[Act.eval]
 .have e2:(#[.func (.yield l) #[] #[]]++cs.toArray:Array Value)=(.func (.yield l) #[] #[]::cs).toArray:=by apply yBR;simp
  simp only[invoke,callFunc,yAW,run_program,hfn,hn,hb',yAx,yAO,yBb,yBa,e2]
 .cases en with
  |panicked ch=>exact he.elim
  |outgrown=>exact he.elim
  |returned v=>
   obtain⟨c2,rfl,e2,hs2,eP,_,_⟩:=he;have kM:=eP.aZ id hd;obtain⟨er,aEN⟩:=eP.mU id hd hno;have j5:=er.trans hρ;unfold YS at hleave;rw[<-e2]at hleave;split at hleave
   .rename_i iP UL UM UN hlo;simp only[yAb]at hleave;subst hleave;obtain⟨r2,hh,_,_,_,_,hst⟩:=Q3 hs2 kM hlo j5;obtain⟨c3,w3,e3,hs3,o5⟩:=aEO (fl:=fl) (r':={ r2 with state:=.exhausted }) hs2 kM hlo j5 hfl hh;refine⟨_,_,run_endLoop hh (by rw[hst.1];simp),?_⟩;rw[<-w3,hst.2];exact hQ c3 a' e3 hs3 (eP.trans o5) ((hf.mono eP).mono o5) ((hm.mono eP).mono o5)
   .rename_i iP UL UM UN hlo;simp only[yAb]at hleave;subst hleave;obtain⟨r2,hh,_,_,_,_,hst⟩:=Q3 hs2 kM hlo j5;obtain⟨c3,w3,e3,hs3,o5⟩:=aEO (fl:=fl) (r':={ r2 with state:=.exhausted }) hs2 kM hlo j5 hfl hh;refine⟨_,_,run_endLoop hh (by rw[hst.1];simp),?_⟩;rw[<-w3,hst.2];exact wpIn_ret (hQ c3 a' e3 hs3 (eP.trans o5) ((hf.mono eP).mono o5) ((hm.mono eP).mono o5))
   .rename_i k iP UL UM UN hlo;simp only[yAb]at hleave;subst hleave;obtain⟨r2,hh,_,_,_,_,hst⟩:=Q3 hs2 kM hlo j5;obtain⟨c3,w3,e3,hs3,o5⟩:=aEO (fl:=fl) (r':={ r2 with state:=.exhausted }) hs2 kM hlo j5 hfl hh;refine⟨_,_,run_endLoop hh (by rw[hst.1];simp),?_⟩;rw[<-w3,hst.2];exact wpIn_exit (hQ c3 a' e3 hs3 (eP.trans o5) ((hf.mono eP).mono o5) ((hm.mono eP).mono o5))
   .simp at hleave
theorem aSF(hF:Open F P)(hc:Ok F P call){rd:Option Nat}{gf:FuncId}{cap fr:Dq}{ps:Array Tmp}{assign body:Code}{ms:List Nat}{cx:Cx}{a:Act}{r:PO}{m:Nat}{Q:Exit->Act->World->Prop}{g:Operand}
  (h:YY call rd gf cap ps.toList assign body fl fr ms cx.σ=some r) (hs:Sr cx) (hX:Xw fl cx) (hf:FR cx a fr) (hm:MR B cx a.defers ms) (hr:EW F cx rd) (hg:VR cx (a.eval g) (.func gf cap))
  (hQ:∀lE mT,lE.σ=r.σ->Sr lE->Nx fl cx lE->FR lE mT r.fr->MR B lE mT.defers r.ms->Q r.x.YX mT lE.w):(Code.rangeFunc g ps assign body).wpIn F m P Q a cx.w:=by
 refine wpIn_rangeFunc λfn _=>?_
 unfold YY at h;split at h
 .rename_i hfl;split at h
  ·
   split at h
   .rename_i q σ2 hcall;have hro:F.round=none:=hr;have g1:cx.w.grownBy (cx.w.alloc (.deferred (some []))) none:=KB _ _;have b1:∀b,aW (.pointer (some ⟨cx.w.heap.size,0,none⟩))=some b->cx.w.heap.size<=b/\b<(cx.w.alloc (.deferred (some []))).heap.size:=λb hb=>by simp[aW]at hb;subst hb;simp
    let c1:=cx.push (cx.w.alloc (.deferred (some []))) (.pointer (some ⟨cx.w.heap.size,0,none⟩)) .mark
    have hs1:Sr c1:=Sr.push hs g1 b1 ⟨_,rfl,yBL _ _⟩;have gQ:Nx fl cx c1:=Nx.push hs g1 (λb hb=>(b1 b hb).1);have l1:c1.σ.length=cx.σ.length+1:=by simp[c1,Cx.push]
    let xW:Loop:={ state:=.ready,pending:=none,fn,tmps:=a.tmps,params:=ps,assign,body,defers:=cx.w.heap.size }
    have g2:c1.w.grownBy (c1.w.alloc (.loop xW)) none:=KB _ _;have MY:c1.w.heap.size=cx.w.heap.size+1:=by show(cx.w.alloc _).heap.size=_;simp
    have b2:∀b,aW (.pointer (some ⟨cx.w.heap.size+1,0,none⟩))=some b->c1.w.heap.size<=b/\b<(c1.w.alloc (.loop xW)).heap.size:=λb hb=>by simp[aW]at hb;subst hb;simp[MY]
    have hnew:(c1.w.alloc (.loop xW)).heap[cx.w.heap.size+1]?=some (.loop xW):=by rw[<-MY];exact yBL _ _
    let c2:=c1.push (c1.w.alloc (.loop xW)) (.pointer (some ⟨cx.w.heap.size+1,0,none⟩)) (.loop .ready fr ps.toList assign body)
    have hs2:Sr c2:=Sr.push hs1 g2 b2 ⟨_,_,rfl,hnew,by simp[xW],rfl,rfl,aK.mono gQ hf.1,⟨rfl,rfl⟩⟩;have eP:Nx fl c1 c2:=Nx.push hs1 g2 (λb hb=>(b2 b hb).1);have YZ:=gQ.trans eP;have aEP:c2.σ=cx.σ++[.mark]++[.loop .ready fr ps.toList assign body]:=rfl;have pn:=fS (c:=c1) (w:=c1.w.alloc (.loop xW)) (v:=.pointer (some ⟨cx.w.heap.size+1,0,none⟩)) (o:=.loop .ready fr ps.toList assign body);rw[l1]at pn;rw[<-aEP]at hcall;obtain⟨d,w₁',f,args,w₂,h1,h2,h3,h4,h5⟩:=aJN (n:=m) (a:=a) (a':={ a with defers:=[{ target:=.collected cx.w.heap.size,args:=#[] }]++a.defers }) (g:=g) (Q:=Q) hF hc hs2 (hX.next hs YZ) pn.2.2 pn.2.1 (by rw[pn.1];trivial) ym (hg.mono YZ) hcall h (hf.mono YZ)
     ⟨⟨_,rfl,eP.aZ _ (.inr rfl),by rw[EX (id:=cx.σ.length) hs1 (.inr rfl),fS.1];trivial,(o6 hs1 (.inr rfl)).trans fS.2.1⟩,hm.mono YZ⟩
     (λlE mT e1 q1 q2 q3 q4=>hQ lE mT e1 q1 (YZ.trans q2) q3 q4)
    refine⟨_,_,c2.w,d,w₁',f,args,w₂,?_,h1,h2,h3,h4,h5⟩;rw[hro];exact run_enterLoop_outer fn a.tmps ps assign body
   .exact ah
  ·
   rename_i id0;split at h
   .rename_i st0 iP UL UM UN hlo0;split at h
    .rename_i q σ2 hcall;obtain⟨l0,hro,vF,a7o,aSG⟩:=hr;obtain⟨r0,hh0,_⟩:=Q3 hs vF hlo0 aSG
     let xW:Loop:={ state:=.ready,pending:=none,fn,tmps:=a.tmps,params:=ps,assign,body,defers:=r0.defers }
     have g2:cx.w.grownBy (cx.w.alloc (.loop xW)) none:=KB _ _;have b2:∀b,aW (.pointer (some ⟨cx.w.heap.size,0,none⟩))=some b->cx.w.heap.size<=b/\b<(cx.w.alloc (.loop xW)).heap.size:=λb hb=>by simp[aW]at hb;subst hb;simp
     let c2:=cx.push (cx.w.alloc (.loop xW)) (.pointer (some ⟨cx.w.heap.size,0,none⟩)) (.loop .ready fr ps.toList assign body)
     have hs2:Sr c2:=Sr.push hs g2 b2 ⟨_,_,rfl,yBL _ _,by simp[xW],rfl,rfl,hf.1,⟨rfl,rfl⟩⟩;have eP:Nx fl cx c2:=Nx.push hs g2 (λb hb=>(b2 b hb).1);have aEP:c2.σ=cx.σ++[.loop .ready fr ps.toList assign body]:=rfl;have pn:=fS (c:=cx) (w:=cx.w.alloc (.loop xW)) (v:=.pointer (some ⟨cx.w.heap.size,0,none⟩)) (o:=.loop .ready fr ps.toList assign body);rw[<-aEP]at hcall;obtain⟨d,w₁',f,args,w₂,h1,h2,h3,h4,h5⟩:=aJN (n:=m) (a:=a) (a':={ a with defers:=[]++a.defers }) (g:=g) (Q:=Q) hF hc hs2 (hX.next hs eP) pn.2.2 pn.2.1 (by rw[pn.1];trivial) hfl (hg.mono eP) hcall h (hf.mono eP)
      (hm.mono eP) (λlE mT e1 q1 q2 q3 q4=>hQ lE mT e1 q1 (eP.trans q2) q3 q4)
     refine⟨_,_,c2.w,d,w₁',f,args,w₂,?_,h1,h2,h3,h4,h5⟩;rw[hro];unfold Instr.enterLoop;simp only[yAW,run_getLoop hh0,run_newObj_alloc,Result.andThen,yBb];rfl
    .exact ah
   .exact ah
 .exact ah
theorem PD.aSH{c:Cx}{v u:Value}{p:PD}(hv:VR c v p)(h:p.scalar=some u):v=u:=by
 cases hv<;>simp[PD.scalar]at h<;>exact h
theorem aJO{c:Cx}:∀ {vs us:Ds} {ps:Dq},aK c vs ps->scalars ps=some us->vs=us
 | [],us,[],_,h=>by simpa [scalars]using h
 |v::vs,us,[],hv,_=>De
 | [],us,p::ps,hv,_=>De
 |v::vs,us,p::ps,hv,h=>by
  simp only[scalars]at h;split at h
  .rename_i a b h1 h2;simp only[yAb]at h;subst h;rw[PD.aSH (hv.2 0 v p rfl rfl) h1,aJO (vs:=vs) (ps:=ps) ⟨by simpa using hv.1,λi u d hu hd=>hv.2 (i+1) u d Am Av⟩ h2]
  .cases h
theorem PD.OZ{c:Cx}{v u:Value}{p:PD}(hv:VR c v p)(h:p.fail=some u):v=u/\∃t x,u=.iface t x:=by
 unfold PD.fail at h;split at h
 .rename_i t cs;split at h
  .rename_i vs hvs;simp only[yAb]at h;subst h;cases hv with
   |iface _ v0 _ h0=>
    cases h0 with
    |agg cs0 _ hl h1 h2=>exact⟨by rw[aJO (c:=c) ⟨hl,h2⟩ hvs],_,_,rfl⟩
  .cases h
 .cases h
theorem aSI{E:aE}{n:Nat}{c:Cx}{Q:Exit->Act->World->Prop}(hF:Open F P)(hp:aEQ P E.bD)(hs:Sr c)(hX:Xw fl c){a:Act}{fr:Dq}(hf:FR c a fr){o:Oper}{v:Value}{σ':Dp}
  (h:o7 E fl fr c.σ o.op=some (v,σ')) {K:Act->World->Prop} (hK:∀c':Cx,c'.σ=σ'->Sr c'->Nx fl c c'->Q (.panic [{ v,recovered:=false }]) a c'.w):o.wpIn F n P a c.w K Q:=by
 have hnd:∀d,o.op≠.defer d:=by
  intro d e;rw[e]at h;simp[o7,dO]at h
 refine⟨λf _=>hF.fn f,?_⟩;rw[yDb _ _ _ hnd];unfold o7 at h;split at h
 .rename_i x hop;split at h
  .rename_i p hx;split at h
   .rename_i u hu;simp only[yAb,yAc]at h;obtain⟨rfl,rfl⟩:=h;obtain⟨e,t,y,rfl⟩:=PD.OZ (cY hf hx) hu;have hr:(execOp a.eval o).run P c.w=.halt (.panic (.iface t y)) c.w:=by
     obtain⟨dst,op,ty,pos,after,guard⟩:=o;simp only at hop;subst hop;simp only[execOp,e,Instr.panic];rfl
    rw[hr];exact hK c rfl hs (.refl _ _)
   .cases h
  .cases h
 .split at h
  .rename_i f args htg;split at h
   .rename_i g hg;split at h
    .split at h
     .rename_i q hq;obtain⟨vs0,aER⟩:∃vs:List Value,aK c vs args:=by
       exact br
      obtain⟨⟨fn,hfn,hb⟩,_⟩:=hp hF hq h hs hX aER;obtain⟨vs,r,hvs⟩:=aJP (P:=P) hf htg hfn hb (hF.name f fn hfn);rw[r];refine⟨hF.asks,yBQ ((hp hF hq h hs hX hvs).2 _) λe w'' he=>?_⟩;cases e with
      |returned v=>exact he.elim
      |panicked chain=>
       obtain⟨rfl,c',rfl,e1,hs',nx⟩:=he;exact hK c' e1 hs' nx
      |outgrown=>exact he.elim
     .cases h
    .cases h
   .cases h
  .cases h
theorem aSJ{E:aE}{n:Nat}{Q:Exit->Act->World->Prop}(hF:Open F P)(hc:Ok F P call)(hp:aEQ P E.bD){ops:Du}:∀(l:List Oper) (i:Nat) (_:ops.toList.drop i=l) {c:Cx} (_:Sr c) (_:Xw fl c) {a:Act} {fr:Dq} (_:FR c a fr) {v:Value} {fr':Dq} {σ':Dp}
  (_:EV P E call fl ops l fr c.σ=some (v,fr',σ'))
  (_:∀c' a',c'.σ=σ'->Sr c'->Nx fl c c'->FR c' a' fr'->a'.defers=a.defers->Q (.panic [{ v,recovered:=false }]) a' c'.w),wpOpsIn F n P ops Q (List.range' i l.length) a c.w:=by
 intro l
 induction l with
 |nil=>
  intro i _ c hs hX a fr hf v fr' σ' h hQ;simp[EV]at h
 |cons o rest ih=>
  intro i hdrop c hs hX a fr hf v fr' σ' h hQ;have hi:i<ops.toList.length:=by
   exact qd
  have ho:ops[i]?=some o:=by
   exact mg
  have xV:ops.toList.drop (i+1)=rest:=by
   rw[<-yBq,hdrop];rfl
  simp only[yAK,yCL,wpOpsIn,ho];rw[aET hf];simp only[EV]at h;split at h
  .rename_i hw;rw[yAJ hw];split at h
   .rename_i p σ1 hst;refine aEU hF hc hs hX hf hst λv' w' hl=>?_
    exact fu
   .split at h
    .rename_i u σ1 hpo;simp only[yAb,yAc]at h;obtain⟨rfl,rfl,rfl⟩:=h;exact aSI hF hp hs hX hf hpo λc' e1 hs' nx=>hQ c' a e1 hs' nx (hf.mono nx) rfl
    .cases h
  .exact gm
theorem VR.aSK{c:Cx}{v:Value}{p:PD}(h:VR c v p):p.marked=false:=by
 have key:∀ {v:Value} {p:PD},VR c v p->p.Q4=false:=by
  intro v p h;cases h with
  |bG _ hu=>
   cases v with
   |bool b=>cases hu
   |_=>rfl
  |_=>rfl
 cases h with
 |agg cs ds hl h1 h2=>
  simp only[PD.marked,yCz];intro x hx;obtain⟨i,hi,rfl⟩:=List.getElem_of_mem hx;rw[key (h2 i cs[i] ds[i] (yAh ym) (yAh hi))];simp
 |bG _ hu=>
  cases v with
  |bool b=>cases hu
  |_=>rfl
 |_=>rfl
theorem aSL{E:aE}{n:Nat}{c0:Cx}{Q:Exit->Act->World->Prop}(hF:Open F P)(hE:aF P E){ops:Du}(hs:Sr c0)(hX:Xw fl c0){a:Act}{fr:Dq}(hf:FR c0 a fr){v:Value}{τ:Dp}(h:M0 P E fl ops fr c0.σ=some (v,τ))
  (hQ:∀c' a',c'.σ=τ->Sr c'->Nx fl c0 c'->(∃xX,FR c' a' xX/\∀i,i<7->xX[i]?=fr[i]?)->a'.defers=a.defers->Q (.panic [{ v,recovered:=false }]) a' c'.w):wpAnyIn F n P .any ops Q ops.size (Array.replicate ops.size false) a c0.w:=by
 unfold M0 at h;split at h
 .split at h
  .rename_i v1 τ1 v2 lF _ _;split at h
   .rename_i hc;simp only[yAb,yAc]at h;obtain⟨rfl,rfl⟩:=h;obtain⟨_,_,hlow,f,x,fr',σ',hx,hm,hxm⟩:=hc;have hok:Ok F P (cW (E.KC fl f x v1 τ1)) (λc ch w'=>ch=[{ v:=v1,recovered:=false }]/\∃c':Cx,c'.w=w'/\c'.σ=τ1/\Sr c'/\Nx fl c c'):=by
     have up:∀ {c:Cx} {cE:Nat} {p:PD} {σ1:Dp} {e:Ending} {w':World},MJ cE c p σ1 e w'->aBT (λc ch w'=>ch=[{ v:=v1,recovered:=false }]/\∃c':Cx,c'.w=w'/\c'.σ=τ1/\Sr c'/\Nx fl c c') cE c p σ1 e w':=by
      intro c cE p σ1 e w' h;cases e with
      |returned v=>exact h
      |panicked ch=>exact h.elim
      |outgrown=>exact h
     refine⟨fun {cE f' args c vs p σ1} hg hs1 Q2 lQ=>?_,λhg=>Ao⟩;simp only[cW,aE.KC]at hg;split at hg
     .rename_i g hE1;split at hE1
      .rename_i e;subst e;simp only[yAb]at hE1;subst hE1;unfold Q5 at hg;split at hg
       .rename_i g0 Y0;split at hg
        .rename_i r O0;simp only[yAb]at hg;subst hg;obtain⟨k1,k2⟩:=hE.ret hF Y0 O0 hs1 Q2 lQ;exact⟨k1,λm=>yBQ (k2 m) λe w' he=>up he⟩
        .split at hg
         .rename_i q hq;split at hg
          .rename_i hc2;obtain⟨rfl,hq2⟩:=hc2;obtain⟨k1,k2⟩:=hE.bD hF hq hq2 hs1 Q2 lQ;refine⟨k1,λm=>yBQ (k2 m) λe w' he=>?_⟩;cases e with
           |returned v=>exact he.elim
           |panicked ch=>exact he
           |outgrown=>exact he.elim
          .cases hg
         .cases hg
       .cases hg
      .obtain⟨k1,k2⟩:=hE.ret hF hE1 hg hs1 Q2 lQ;exact⟨k1,λm=>yBQ (k2 m) λe w' he=>up he⟩
     .cases hg
    refine aJQ hF hok hs hX hf hx (λc' a' _ _ _ hf' _=>?_) (λc a' aH ch w' hs' nx eY hl1 hd hp=>?_)
    .exfalso
     obtain⟨y,hy,hym⟩:=List.any_eq_true.1 hm;obtain⟨i,hi,rfl⟩:=List.getElem_of_mem hy;have hl:i<a'.tmps.toList.length:=by rw[hf'.1.1];exact hi
     rw[(hf'.1.2 i _ _ (yAh hl) (yAh hi)).aSK]at hym;cases hym
    .obtain⟨rfl,c',rfl,e,hs2,eP⟩:=hp;exact hQ c' a' e hs2 (nx.trans eP) ⟨aH,eY.mono eP,λi hi=>hl1 i (λo ho hd=>by have:=yAn.1 hlow o Aq;simp only[hd]at this;exact absurd (yDq this) (Nat.not_le.2 hi))⟩ hd
   .cases h
  .cases h
 .cases h
end
theorem Y5{P:Program}{E:aE}(hE:aF P E)(hP:P.follows .mixedOrders=true):∀n,aEV P (gP P E n):=by
 intro n
 induction n with
 |zero=>intro F rd c fl fr ms cx r a B hF h;simp[gP]at h
 |succ n ih=>
  intro F rd c fl fr ms cx r a B hF h hs hX hf hm hr m Q hQ;have hc:Ok F P (oI P E (gP P E n)):=aJR hE ih hF;unfold gP at h;split at h
  .simp only[yAb]at h;subst h;exact wpIn_skip (hQ cx a rfl hs (.refl _ _) (.of hf) hm)
  .split at h
   .rename_i id ops _ fr' σ' hseq;simp only[yAb]at h;subst h;refine wpIn_region ?_;unfold OW at hseq;rw[List.range_eq_range'];split at hseq
    .rename_i x hx;simp only[yAb]at hseq;subst hseq;have:=aJS (n:=m) (Q:=Q) hF hc ops.toList 0 yo hs hX hf hx (λc' a' e1 q1 q2 q3 q4=>hQ c' a' e1 q1 q2 (.of q3) Cw);exact bp
    .have:=aSM (n:=m) (Q:=Q) hF hc hs hX hf hseq (λc' a' e1 q1 q2 q3 q4=>hQ c' a' e1 q1 q2 (.of q3) Cw);exact bp
   .split at h
    .rename_i id ops _ _ _ v fr' σ' hpan;simp only[yAb]at h;subst h;refine wpIn_region ?_;rw[List.range_eq_range'];have:=aSJ (n:=m) (Q:=Q) hF hc hE.bD ops.toList 0 yo hs hX hf hpan (λc' a' e1 q1 q2 q3 q4=>hQ c' a' e1 q1 q2 (.of q3) Cw);exact bp
    .exact ah
  .split at h
   .rename_i id ops _ fr' σ' hdr;simp only[yAb]at h;subst h;refine wpIn_region_any hP ?_;have hg:cx.w.grownBy cx.w.drew none:=aBH _;have nx:Nx fl cx (cx.at cx.w.drew):=Nx.grow hs hg;exact aJQ (n:=m) (c0:=cx.at cx.w.drew) hF hc (Sr.grow hs hg) (hX.next hs nx) (hf.mono nx) hdr (λc' a' e1 q1 q2 q3 q4=>hQ c' a' e1 q1 (nx.trans q2) (.of q3) (by rw[q4];exact(hm.mono nx).mono q2))
   .split at h
    .rename_i id ops _ _ _ v τ hdr;simp only[yAb]at h;subst h;refine wpIn_region_any hP ?_;have hg:cx.w.grownBy cx.w.drew none:=aBH _;have nx:Nx fl cx (cx.at cx.w.drew):=Nx.grow hs hg;exact aSL (n:=m) (c0:=cx.at cx.w.drew) hF hE (Sr.grow hs hg) (hX.next hs nx) (hf.mono nx) hdr (λc' a' e1 q1 q2 q3 q4=>hQ c' a' e1 q1 (nx.trans q2) ⟨q3,λhx=>absurd rfl (hx v)⟩ (by rw[q4];exact(hm.mono nx).mono q2))
    .exact ah
  .rename_i x y;refine wpIn_seq ?_;split at h
   .rename_i aH ms1 σ1 hx;refine nR.wpIn (ih hF hx hs hX hf hm hr m _ λc1 a1 e1 hs1 gQ eY jI=>?_);simp only at e1 jI;have eY:=eY.all (λ_ h=>zk);simp only at eY;rw[<-e1]at h;exact nR.wpIn (ih hF h hs1 (hX.next hs gQ) eY jI (hr.mono gQ) m _ λc2 a2 e2 hs2 eP qQ hm2=>hQ c2 a2 e2 hs2 (gQ.trans eP) qQ hm2)
   .exact dj
  .rename_i g x y;split at h
   .rename_i hg;exact wpIn_cond_true (cY hf hg).OY (nR.wpIn (ih hF h hs hX hf hm hr m Q hQ))
   .rename_i hg;exact wpIn_cond_false (cY hf hg).OY (nR.wpIn (ih hF h hs hX hf hm hr m Q hQ))
   .exact ah
  .rename_i id b;refine wpIn_block ?_;split at h
   .rename_i k aH ms1 σ1 hx;simp only[yAb]at h;subst h;refine nR.wpIn (ih hF hx hs hX hf hm hr m _ λc1 a1 e1 hs1 gQ eY jI=>?_);have:=hQ c1 a1 e1 hs1 gQ (.of (eY.all (λ_ h=>zk))) jI;simp only[PX.YX,Exit.inBlock]
    by_cases hk:k=id
    .simp only[hk,yAM]at this ⊢;exact this
    .simp only[hk,yAO]at this ⊢;exact this
   .rename_i hne;refine nR.wpIn (ih hF h hs hX hf hm hr m _ λc1 a1 e1 hs1 gQ eY jI=>?_);have:=hQ c1 a1 e1 hs1 gQ eY jI;obtain⟨x',aH,ms1,σ1⟩:=r;cases x' with
    |normal=>exact this
    |ret=>exact this
    |panic v=>exact this
    |exit k=>exact absurd h (hne _ _ _ _)
  .rename_i b;show M1 F m P b Q a cx.w
   refine M1.round ?_;split at h
   .rename_i aH ms1 σ1 hx;refine nR.wpIn (ih hF hx hs hX hf hm hr m _ λc1 a1 e1 hs1 gQ eY jI=>?_);simp only at e1 jI;have eY:=eY.all (λ_ h=>zk);simp only at eY;rw[<-e1]at h;exact ih hF h hs1 (hX.next hs gQ) eY jI (hr.mono gQ) m Q λc2 a2 e2 hs2 eP qQ hm2=>hQ c2 a2 e2 hs2 (gQ.trans eP) qQ hm2
   .exact dj
  .rename_i g ps assign body;split at h
   .rename_i gf cap hg;exact aSF hF hc h hs hX hf hm hr (cY hf hg) (λc' a' e1 q1 q2 q3 q4=>hQ c' a' e1 q1 q2 (.of q3) q4)
   .exact ah
  .simp only[yAb]at h;subst h;exact wpIn_exit (hQ cx a rfl hs (.refl _ _) (.of hf) hm)
  .simp only[yAb]at h;subst h;exact wpIn_ret (hQ cx a rfl hs (.refl _ _) (.of hf) hm)
  .exact ah
theorem UH{P:Program}{E:aE}(hE:aF P E)(hP:P.follows .mixedOrders=true){F:Fence}(hF:Open F P)(n:Nat):Ok F P (cD P E n):=aJR hE (Y5 hE hP n) hF
end
end Go.Kz
end
