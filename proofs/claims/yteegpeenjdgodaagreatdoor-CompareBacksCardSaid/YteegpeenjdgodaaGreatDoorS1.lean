/- Steps of the proof. -/
import Derived.WalkKit
import Derived.Maps.AppendAt
import Derived.Lib.FrozenHead
import Derived.CallsIn
import Derived.Laws.StructEq
import Derived.Laws.Entries
import Derived.Laws.Tables
import Derived.ArgAppend
import Derived.Deep.DeepAppendRoom
import Derived.RangeFuncRecord
import Derived.Lib.ConvBytes
import Derived.Laws.BytesString
import Derived.Laws.MakeOwn
set_option linter.all false
set_option maxHeartbeats 40000000
set_option maxRecDepth 100000
namespace Go.Kz
section
variable{G:Prop}
theorem ag(h:G:=by
 simp(disch:=first|omega|(simp;done)|(simp;omega)) [yAu]<;>try rfl):G:=h
theorem ah(h:G:=by
 simp only at hokr ⊢
 rw[he]at k6
 simp only[he]
 obtain⟨bW,h4⟩:=gn (σ3.set 0 (.box (.agg [.str on,hR,hD,Q])))
 have t2:(bW++L5)[2]?=some (.box bX):=by
  rw[<-h4,yAg (by rw[yAD];omega),yAd (by omega)]
  exact u2
 have kE:∀R X,aW R bW ((bW++L5).set 2 X):=λR X=>(aW.app R bW L5).trans (aW.set t2 X)
 rw[h4]at m1 m2 m3 k6
 have a0:bW[0]?=some (.box (.agg [.str on,hR,hD,Q])):=by rw[<-h4,yAj r0]
 obtain⟨a1,a2⟩:=yA.1 a0
 unfold bX at t2
 obtain⟨t3,t4⟩:=yA.1 t2
 by_cases hz:e=0
 .subst hz
  rw[yAJ rfl]at k6
  refine aC (A20 @g0 @g1 @g2 @v0 y0 @v1 y1 @v2 y2 @i1 @i2 h5 k5 u0 u1 u2 r0 x0 r1 (A20 x1 r2 x2 pQ cQ pR pD pC cR cD cC h4 @a0 a1 @a2 h6 k6 @t2 @t3 @t4)) ?_
  refine⟨.aH [.agg [.str on,hR,hD,Q],.int .i64 0],(bW++L5).set 2 (.box (.agg [.str on,hR,hD,Q])),?_,.inr ⟨by omega,i2,hR,hD,Q,rfl,m1.aM (kE _ _),m2.aM (kE _ _),m3.aM (kE _ _)⟩⟩
  have dU:=t3
  rw[yAa]at dU
  simp[bV,dU]
 .rw[yAI hz]at k6
  unfold bX at k6
  refine aC (A20 @g0 @g1 @g2 @v0 y0 @v1 y1 @v2 y2 @i1 @i2 h5 k5 u0 u1 u2 r0 x0 r1 (A20 x1 r2 x2 pQ cQ pR pD pC cR cD cC h4 @a0 a1 @a2 h6 k6 @t2 @t3 @t4)) ?_
  refine⟨.aH [bX,.int .i64 e],(bW++L5).set 2 (.box bX),?_,.inr ⟨by omega,i2,hR,hD,Q,by rw[yAI hz],m1.aM (kE _ _),m2.aM (kE _ _),m3.aM (kE _ _)⟩⟩
  have dU:=t3
  rw[yAa]at dU
  simp[bV,dU,bX]):G:=h
theorem ai(h:G:=by
 rw[he]at k6
 simp only[he]
 obtain⟨dA,j6⟩:∃s,bW.set 0 (.box (.agg [.str on,Q,hD,hC]))=s:=⟨_,rfl⟩
 have t2:(dA++L5)[2]?=some (.box bX):=by
  rw[<-j6,yAg (by rw[yAD];omega),yAd (by omega)]
  exact s2
 have kE:∀R X,aW R dA ((dA++L5).set 2 X):=λR X=>(aW.app R dA L5).trans (aW.set t2 X)
 rw[j6]at m1 m2 m3 k6
 have a0:dA[0]?=some (.box (.agg [.str on,Q,hD,hC])):=by rw[<-j6,yAj f0]
 obtain⟨a1,a2⟩:=yA.1 a0
 unfold bX at t2
 obtain⟨t3,t4⟩:=yA.1 t2
 rw[j6]
 by_cases hz:e=0
 .subst hz
  rw[yAJ rfl]at k6
  refine aC (A16 pQ cQ pR pD pC cR cD cC @a0 a1 @a2 h6 k6 @t2 @t3 @t4) ?_
  refine⟨.aH [.agg [.str on,Q,hD,hC],.int .i64 0],(dA++L5).set 2 (.box (.agg [.str on,Q,hD,hC])),?_,.inr (.inr ⟨ow,by omega,i2,Q,hD,hC,rfl,m1.aM (kE _ _),m2.aM (kE _ _),m3.aM (kE _ _)⟩)⟩
  have dU:=t3
  rw[yAa]at dU
  simp[bV,dU]
 .rw[yAI hz]at k6
  unfold bX at k6
  refine aC (A16 pQ cQ pR pD pC cR cD cC @a0 a1 @a2 h6 k6 @t2 @t3 @t4) ?_
  refine⟨.aH [bX,.int .i64 e],(dA++L5).set 2 (.box bX),?_,.inr (.inr ⟨ow,by omega,i2,Q,hD,hC,by rw[yAI hz],m1.aM (kE _ _),m2.aM (kE _ _),m3.aM (kE _ _)⟩)⟩
  have dU:=t3
  rw[yAa]at dU
  simp[bV,dU,bX]):G:=h
theorem aj(h:G:=by
 rw[he]at k6
 simp only[he]
 obtain⟨dA,j6⟩:∃s,bW.set 0 (.box (.agg [.str on,hR,Q,hC]))=s:=⟨_,rfl⟩
 have t2:(dA++L5)[2]?=some (.box bX):=by
  rw[<-j6,yAg (by rw[yAD];omega),yAd (by omega)]
  exact s2
 have kE:∀R X,aW R dA ((dA++L5).set 2 X):=λR X=>(aW.app R dA L5).trans (aW.set t2 X)
 rw[j6]at m1 m2 m3 k6
 have a0:dA[0]?=some (.box (.agg [.str on,hR,Q,hC])):=by rw[<-j6,yAj f0]
 obtain⟨a1,a2⟩:=yA.1 a0
 unfold bX at t2
 obtain⟨t3,t4⟩:=yA.1 t2
 rw[j6]
 by_cases hz:e=0
 .subst hz
  rw[yAJ rfl]at k6
  refine aC (A16 pQ cQ pR pD pC cR cD cC @a0 a1 @a2 h6 k6 @t2 @t3 @t4) ?_
  refine⟨.aH [.agg [.str on,hR,Q,hC],.int .i64 0],(dA++L5).set 2 (.box (.agg [.str on,hR,Q,hC])),?_,.inr (.inr ⟨ow,by omega,i2,hR,Q,hC,rfl,m1.aM (kE _ _),m2.aM (kE _ _),m3.aM (kE _ _)⟩)⟩
  have dU:=t3
  rw[yAa]at dU
  simp[bV,dU]
 .rw[yAI hz]at k6
  unfold bX at k6
  refine aC (A16 pQ cQ pR pD pC cR cD cC @a0 a1 @a2 h6 k6 @t2 @t3 @t4) ?_
  refine⟨.aH [bX,.int .i64 e],(dA++L5).set 2 (.box bX),?_,.inr (.inr ⟨ow,by omega,i2,hR,Q,hC,by rw[yAI hz],m1.aM (kE _ _),m2.aM (kE _ _),m3.aM (kE _ _)⟩)⟩
  have dU:=t3
  rw[yAa]at dU
  simp[bV,dU,bX]):G:=h
theorem ak(h:G:=by
 simp at h):G:=h
theorem aq(h:G:=by
 simp(disch:=first|omega|(simp;done)|(simp;omega)) [yAu,cM]<;>try rfl):G:=h
theorem au(h:G:=by
 obtain⟨hno,rQ,eJ⟩:=hbf rfl
 have u2:=(eJ 2 (by omega)).trans g2
 obtain⟨r2,x2⟩:=yA.1 u2
 refine aC (A16 @g0 @g1 @g2 @v0 y0 @v1 y1 @v2 y2 @i1 @i2 h7 k7 u2 r2 x2) ?_
 exact⟨.aH [bE,.int .i64 14],σ3.set 2 (.box bE),by simp[bV,r2,bE],.inr (.inl ⟨hno,by omega,i2,rfl⟩)⟩):G:=h
theorem ax(h:G:=by
 rcases h8 with⟨rfl,x1⟩ | ⟨rfl,x1⟩ | ⟨rfl,x1⟩ | ⟨rfl,x1⟩ | ⟨rfl,x1⟩ | x1
 all_goals
  have hz:=h0
  refine aI.aG 145 h0 func16 (h:=?_)
  refine aC (A18 h1 k1 h2 k2 h3 k3 hnl hwn hnq hnd hdl hxe nE c0 b1 @g1 @g2 x1) ?_
  simp(disch:=first|omega|(simp;done)|(simp;omega)) [yAu,c0,b1,g1,g2,x1,qB,wh,mS,hL,nU,bB,aU,bA,bD,bZ,sz]<;>try rfl):G:=h
theorem ay(h:G:=by
 simp(disch:=first|omega|(simp;done)|(simp;omega)) [yAu,bK,bB,aU,bA,bD,bZ,sz,hgi,hie]<;>try rfl):G:=h
theorem az(h:G:=by
 exact⟨_,_,rfl,rfl,rfl⟩):G:=h
theorem bf(h:G:=by
 refine aK.aG 48 h0 func80 (h:=?_)
 apply WL.tI (by decide +kernel)
 apply SL.box (p:=.agg [.int .i64 k,.int .i64 d,.int .i64 i,.str xC,.str rn,.str rt,.int .i64 ra,.int .i64 rb,.int .i64 rf,.slice wk W .any,.str fn,.bool fp,.int .i64 fl,.int .i64 fh,.slice sk S .any,.str sn,.int .i64 sa,.int .i64 sb,.slice gk G .any,.str cn,.int .i64 ca,.int .i64 cb,.int .i64 cs,.bool ct]) (hw:=Wt.i rfl) (hx:=rfl) (hp:=rfl) (hr:=Ns.i rfl) (hn:=Ns.i rfl) (hf:=Fr.i rfl)
 apply SL.box (p:=.agg [.str nm,hR,hD,hC]) (hw:=Wt.i rfl) (hx:=rfl) (hp:=by simp[pR,pD,pC]) (hr:=Ns.i rfl) (hn:=Ns.i rfl) (hf:=Fr.i rfl)
 refine oQ lD ?_
 apply SQ.nil
 refine aC (A3 h1 hW lD) ?_
 exact⟨_,_,rfl,rfl,_,rfl⟩):G:=h
theorem bg(h:G:=by
 refine aC (A11 @g0 @g1 @g2 @v0 y0 @v1 y1 @v2 y2 @i1 @i2) ?_
 exact⟨.aH [bE,.int .i64 10],σ2.set 2 (.box bE),by simp[bV,v2,bE],.inl ⟨.inr i2,rfl⟩⟩):G:=h
theorem bh(h:G:=by
 refine aC (A10 @g0 @g1 @g2 @v0 y0 @v1 y1 @v2 y2 @i1) ?_
 exact⟨.aH [bE,.int .i64 10],σ2.set 2 (.box bE),by simp[bV,v2,bE],.inl ⟨.inl i1,rfl⟩⟩):G:=h
theorem bl(h:G:=by
 have dN:¬(l.length:Int)=(r.length:Int):=by omega
 have hF:=tH hq
 refine aC (A2 @hq dN) ?_
 simp(disch:=first|omega|(simp;done)|(simp;omega)) [yAu,hF]<;>try rfl):G:=h
theorem bp(h:G:=by
 refine bU.normal (m-1) (by omega) (by refine⟨i+1,?_⟩;exact cL (⟨by omega,hs⟩))):G:=h
theorem bq(h:G:=by
 rw[he]at k6
 simp only[he]
 have YI:3<=iD:=hDlo
 have a0:dA[0]?=some (.box (.agg [.str on,hR,.aP iD 0 0 dd.length 5,hC])):=by rw[g6 0 (by omega)];exact s0
 obtain⟨a1,a2⟩:=yA.1 a0
 have t2:(dA++L5)[2]?=some (.box bX):=by
  refine bR ?_
  rw[g6 2 (by omega)]
  exact s2
 have kE:∀R X,aW R dA ((dA++L5).set 2 X):=λR X=>(aW.app R dA L5).trans (aW.set t2 X)
 unfold bX at t2
 obtain⟨t3,t4⟩:=yA.1 t2
 have dU:=t3
 rw[yAa]at dU
 by_cases hz:e=0
 .subst hz
  rw[yAJ rfl]at k6
  refine aC (A12 pR pC cR cC @a0 a1 @a2 h6 k6 @t2 @t3 @t4) ?_
  refine⟨.aH [.agg [.str on,hR,.aP iD 0 0 dd.length 5,hC],.int .i64 0],(dA++L5).set 2 (.box (.agg [.str on,hR,.aP iD 0 0 dd.length 5,hC])),?_,.inr ⟨hix,hR,_,hC,rfl,m1.aM (kE _ _),m2.aM (kE _ _),m3.aM (kE _ _)⟩⟩
  simp[bV,dU]
 .rw[yAI hz]at k6
  unfold bX at k6
  refine aC (A12 pR pC cR cC @a0 a1 @a2 h6 k6 @t2 @t3 @t4) ?_
  refine⟨.aH [bX,.int .i64 e],(dA++L5).set 2 (.box bX),?_,.inr ⟨hix,hR,_,hC,by rw[yAI hz],m1.aM (kE _ _),m2.aM (kE _ _),m3.aM (kE _ _)⟩⟩
  simp[bV,dU,bX]):G:=h
theorem bt(h:G:=by
 rw[yAJ]
 refine⟨?_,?_⟩
 .simp only[pH,yAn,yAR]
  intro k hk
  rw[GO,oS]at h3
  simp only[yAn,yAR,yBv,yBw]at h3
  have yP:=h3 k (by simpa using hk)
  simp only[yBv,yBw,yAn,yAR]
  rcases yP with yP|yP
  .exact .inl yP
  .refine .inr λi hi=>?_
   rcases yP i (by simpa using hi)with h|h
   .exact .inl (.inl h)
   .exact .inl (.inr h)
 .intro k i id ok oi hk hi hm hl hlo hid
  obtain⟨q1,q2⟩:=e2 k ok hk hm
  refine⟨q1,q2 id ?_⟩
  have hkl:=(yA.1 hk).1
  have hil:=(yA.1 hi).1
  have hmem:(BJ (eO.of ρ) ops.toList).getD i none∈L:=by
   rw[<-hL,GQ,oS]
   refine yCT.2 ⟨k,yAR.2 hkl,?_⟩
   have a1:eU eC ops.toList k=true:=by
    unfold eU
    rw[hk]
    exact hm
   have a2:eU eN ops.toList i=true:=by
    unfold eU
    rw[hi]
    exact hl
   rw[yAJ a1]
   exact yDr.2 ⟨i,yAR.2 hil,by rw[a2,hlo];rfl⟩
  obtain⟨a,ha,haB⟩:=Z7 hB _ hmem
  rw[hft i id a hid ha]
  exact haB):G:=h
theorem bu(h:G:=by
 show w'.heap[b']?=_
 rw[h1 b' (iF e2) (λh=>hs.inj i id b' hi hd e' (by rw[e1];rfl) h)]
 exact e2):G:=h
theorem bw(h:G:=by
 refine aC @hm ?_
 exact⟨_,_,rfl,rfl⟩):G:=h
theorem bx(h:G:=by
 have hp:∀q x,mS (gT kd) q x=x:=λq x=>by rw[wh];rfl
 rcases h8 with⟨rfl,x1⟩ | ⟨rfl,x1⟩ | ⟨rfl,x1⟩ | ⟨rfl,x1⟩ | ⟨rfl,x1⟩ | x1
 all_goals
  have hz:=h0
  refine aI.aG 145 h0 func16 (h:=?_)
  refine aC (A16 h1 k1 h2 k2 h3 k3 hnl hwn hnq hnd hdl hxe nE c0 @g1 x1) ?_
  simp(disch:=first|omega|(simp;done)|(simp;omega)) [yAu,c0,g1,x1,qB,hp,hL,nU,bB,aU,bA,bD,bZ,sz]<;>try rfl):G:=h
theorem bz(h:G:=by
 have:=hO.aM (σ':=σ2) (λid y h3 hy=>by
  have h3:3<=id:=h3
  rw[bT,yAg (by rw[yAD];exact(yA.1 hy).1),yAd (by omega)]
  exact hy)
 exact this):G:=h
theorem cg(h:G:=by
 exact⟨_,_,rfl,rfl⟩):G:=h
theorem cj(h:G:=by
 simp(disch:=first|omega|(simp;done)|(simp;omega)) [yAu,hs]<;>try rfl):G:=h
theorem ck(h:G:=by
 refine aC (A8 q1 q2 hi hir ha @hb j0 j1) ?_
 first|refine Wp.seq ?_|skip
 apply Wp.oE
 refine nL (A4 h1 hE j0 j1) ?_
 apply SQ.nil
 refine aC q1 ?_
 refine bU.normal (m-1) (by omega) ⟨i+1,_,cL (⟨by omega,hs⟩)⟩):G:=h
theorem cm(h:G:=by
 have km:=SN hb iI
 simp only[km]at k4
 rcases iI with rfl|rfl|rfl
 all_goals
  have hz:=h0
  refine aK.aG 166 h0 func18 (h:=?_)
  refine aC (A20 h1 k1 h2 k2 h3 k3 n1 n2 hOB jO jS bT c0 c1 c2 c3 w0 w1 w2 (A13 w3 @z0 z1 @z2 @z3 pR pD pC cR cD cC h4 k4)) ?_
  exact⟨.aH [bE,.int .i64 10],σ2.set 2 (.box bE),by simp[bV,w2,bE],.inl ⟨hb,rfl⟩⟩):G:=h
theorem cr(h:G:=by
 simp(disch:=first|omega|(simp;done)|(simp;omega)) [yAu,bK,bB,aU,bA,bD,bZ,sz]<;>try rfl):G:=h
theorem cu(h:G:=by
 rw[h2.int_eq]
 obtain⟨⟨cs,T,fz,hheap,hh⟩,_⟩:=hs.kM.2 0 rfl
 have hcs:=hh.1 .u64 _ rfl
 have htab:Lib.TabIs prog c.w "internal/strconv.uint64pow10" .u64 Lib.pow10Tab:=by
  unfold Lib.TabIs World.var?
  have hg:prog.globalNamed "internal/strconv.uint64pow10" = some 0:=by kernel_rfl
  rw[hg]
  simp only[yCJ,hheap]
  rw[hcs]
  rfl
 refine yBF (Tryz.strconv_Itoa n h0 h1 c.w htab) λe w' he=>?_
 obtain⟨rfl,k,os,rfl⟩:=he
 exact⟨_,rfl,⟨rfl,rfl,rfl,by simp[Go.Sort.grow],λi hi _=>by simp[Go.Sort.grow,yEl,hi]⟩,λ_=>.str _⟩):G:=h
theorem cv(h:G:=by
 simpa using this):G:=h
theorem cw(h:G:=by
 rw[yBc hb]at hE
 refine aC (A3 q1 hi ha) ?_
 first|refine Wp.seq ?_|skip
 apply Wp.oE
 refine nL (A4 h1 hE hi ha) ?_
 apply SQ.nil
 refine aC q1 ?_
 refine bU.normal (m-1) (by omega) (by refine⟨i+1,?_⟩;exact fU (⟨by omega,hs,by omega⟩) @HO)):G:=h
theorem cy(h:G:=by
 show(c.w.putObj b x').heap[b']?=_
 rw[yCM (λe'=>hs.inj i id b' hi hd e (by rw[e1];rfl) (by rw[e'];exact hb))]
 exact e2):G:=h
theorem cz(h:G:=by
 have hu1:=CD
 simp(disch:=first|omega|(simp;done)|(simp;omega)) [yAu,s4,hu1]<;>try rfl
 first|exact⟨by kernel_rfl,rfl,rfl⟩ | exact⟨by kernel_rfl,rfl⟩):G:=h
theorem de(h:G:=by
 have wh:gT kd=-1:=by unfold gT;rw[yAI c0];rw[yAJ (by omega)]
 have hp:∀q x,mS (gT kd) q x=x:=λq x=>by rw[wh];rfl
 rcases h8 with⟨rfl,x1⟩ | ⟨rfl,x1⟩ | ⟨rfl,x1⟩ | ⟨rfl,x1⟩ | ⟨rfl,x1⟩ | x1
 all_goals
  have hz:=h0
  refine aI.aG 145 h0 func16 (h:=?_)
  refine aC (A17 h1 k1 h2 k2 h3 k3 hnl hwn hnq hnd hdl hxe nE c0 @g1 @g2 x1) ?_
  simp(disch:=first|omega|(simp;done)|(simp;omega)) [yAu,c0,g1,g2,x1,qB,hp,hL,nU,bB,aU,bA,bD,bZ,sz]<;>try rfl):G:=h
theorem di(h:G:=by
 show w'.heap[b']?=_
 rw[h1 b' (λe'=>hs.inj i id b' hi hd e (by rw[e1];rfl) (by rw[e'];exact hb))]
 exact e2):G:=h
theorem dj(h:G:=by
 unfold lJ at hi
 split at hi
 .rename_i i h1
  split at hi
  .rename_i z0 h2
   split at hi
   .rename_i h3
    simp only[yAb,yAc]at hi
    obtain⟨rfl,rfl⟩:=hi
    have hmm:xs.length<=maxLen:=by simp only[maxLen];omega
    have hne:¬xs.length=0:=by omega
    have hone:=ho i z0 h1 h2
    have hfr:Tok.full.fresh=true:=rfl
    simp only[dY,ht,yAK,hu,vA,h1,h2,hz,yCe,h3.1,h3.2,hone,yBA,yAO,yCA,hmm,hb,hfr,hne,yAN,yAW,yAp]
   .cases hi
  .cases hi
 .cases hi):G:=h
theorem dm(h:G:=by
 intro id hd
 rcases hd with hd|rfl
 .exact .inl hd
 .exact .inr ⟨yAk _,by simp⟩):G:=h
theorem dw(h:G:=by
 refine bU.normal (m-1) (by omega) ⟨i+1,true,_,cL (hF)⟩):G:=h
theorem dx(h:G:=by
 exact⟨_,_,hv,e1,λ_ _ h=>h⟩):G:=h
theorem dy(h:G:=by
 refine aC (A9 xk hr r7 y7 fJ u7 j0 hi q1) ?_
 refine⟨_,_,rfl,rfl,?_⟩
 simp[dL]):G:=h
theorem dz(h:G:=by
 obtain⟨rfl,rfl⟩:=hcf
 rw[show vK 1=-1 from rfl]at k7
 have hz:=h0
 refine aK.aG 166 h0 func18 (h:=?_)
 refine aC (A20 h1 k1 h2 k2 h3 k3 n1 n2 hOB jO jS bT c0 c1 c2 c3 w0 w1 w2 (A20 w3 @z0 z1 @z2 @z3 pR pD pC cR cD cC h4 k4 h7 k7 u0 u1 u2 u3 (A8 @v0 @v1 @v2 @v3 y0 y1 y2 y3))) ?_
 exact⟨.aH [bE,.int .i64 14],σ3.set 2 (.box bE),by simp[bV,v2,bE],.inr (.inl ⟨λh=>h hb,⟨rfl,hhs.1 rfl⟩,rfl⟩)⟩):G:=h
theorem ec(h:G:=by
 have hw:IntKind.i64.wrap (kd-1)=kd-1:=by rw[yAP];have:=hci.2;omega
 rw[<-hA,<-hB,hw,yCX (by omega),yBX (by omega)]
 exact⟨rfl,rfl⟩):G:=h
theorem ef(h:G:=by
 simp only[bG,yBm,yBu]
 try rfl):G:=h
theorem ei(h:G:=by
 refine aC (A11 @s1 e1 e2 s3 e3 w1 hρ iT xr xv hx) ?_
 exact⟨_,_,rfl,oO⟩):G:=h
theorem ek(h:G:=by
 exact absurd h (by decide)):G:=h
theorem ep(h:G:=by
 by_cases e:s=i
 .subst e
  simp only[yAK,hz]
  refine⟨?_,hst.aM (by omega) λid o h1 h2=>by rw[iJ id (by omega)];exact h2⟩
  rw[<-pA,yAj (by omega),j2]
 .simp only[e,yAN]
  obtain⟨d1,d2⟩:=hdone s h (by omega)
  refine⟨?_,d2.aM (yAk _) λid o h1 h2=>by rw[iJ id (by omega),yF id (hlt _ _ h2)];exact h2⟩
  rw[<-pA,yAd (yAU e)]
  exact d1):G:=h
theorem eu(h:G:=by
 rw[hwy]at hp ⊢
 rcases hp with⟨hb,h2⟩ | ⟨F6,hb1,hb2,h2⟩ | ⟨F6,hb1,hb2,P1,P2,P3,h2,l1,l2,l3⟩
 .rw[yAI (λh:eI _ _ _=>by unfold eI at h;rcases hb with hb|hb<;>omega)]
  exact xW h1 h2
 .rw[yAJ (show eI _ _ _ from⟨hb1,by omega⟩),yAI F6]
  exact xW h1 h2
 .rw[yAJ (show eI _ _ _ from⟨hb1,by omega⟩),yAJ F6]
  exact II h1 h2 l1 l2 l3):G:=h
theorem ew(h:G:=by
 refine aC (A20 q1 hi lN vt rT yT vg rG yG vP RB RC RD hat h1 I3 zZ z6 nM (A3 j0 RE L9)) ?_
 refine⟨_,_,rfl,false,rfl,(λh=>by cases h),λ_=>⟨λhx=>?_,(by show B<=(σ++[_]).length;rw[yAa];omega),λid hid=>(by show(σ++[_])[id]?=_;rw[yAg (by omega)];exact hlow id hid)⟩⟩
 have hx1:=hx _ (yAm hi)
 rw[hc,hokw]at hx1
 cases hx1):G:=h
theorem ey(h:G:=by
 rcases h8 with⟨rfl,x1⟩ | ⟨rfl,x1⟩ | ⟨rfl,x1⟩ | ⟨rfl,x1⟩ | ⟨rfl,x1⟩ | x1
 all_goals
  have hz:=h0
  refine aI.aG 145 h0 func16 (h:=?_)
  refine aC (A17 h1 k1 h2 k2 h3 k3 hnl hwn hnq hnd hdl hxe nE c0 b1 @g1 x1) ?_
  simp(disch:=first|omega|(simp;done)|(simp;omega)) [yAu,c0,b1,g1,x1,qB,wh,mS,hL,nU,bB,aU,bA,bD,bZ,sz]<;>try rfl):G:=h
theorem ez(h:G:=by
 refine aC b1 ?_
 simp(disch:=first|omega|(simp;done)|(simp;omega)) [yAu,s4]<;>try rfl
 exact⟨rfl,rfl⟩):G:=h
theorem fe(h:G:=by
 unfold eM qO
 split
 .exact absurd ⟨rfl,rfl⟩ (h1 _ _ _ _)
 .exact absurd ⟨rfl,rfl⟩ (h2 _ _)
 .simp only
  split
  .rename_i b hb
   split at hb
   .exact absurd ⟨rfl,rfl⟩ (h3 _ _)
   .rw[h]at hb;rw[yAS hb]
  .rename_i hb
   split at hb
   .exact absurd ⟨rfl,rfl⟩ (h3 _ _)
   .rw[h]at hb;cases hb):G:=h
theorem ff(h:G:=by
 refine⟨v,w',.inl ?_,hl⟩
 simp only[execOp,resolve,invoke,builtin,yBb,yBo,yBg]
 simp[r]):G:=h
theorem fj(h:G:=by
 have:xs≠[]:=λh=>by rw[h]at hp;simp at hp
 simp[iL,this]):G:=h
theorem fk(h:G:=by
 have:(if cap=l then(some ⟨b,off,none⟩:Option Addr)else(some ⟨b,off,none⟩:Option Addr).map (·.add (l*n)))=some ⟨b,off+l*n,none⟩:=by
  split
  .have:l=0:=by omega
   subst this
   simp
  .simp[Addr.add]
 simp only[Instr.sliceAt,Instr.slice,yBb,yAM hu,yBg,yDH,b3,oH hn,yBo,this]):G:=h
theorem fo(h:G:=by
 unfold InC at h4
 rcases h4 with⟨rfl,rfl,rfl,rfl,rfl⟩ | ⟨rfl,rfl,rfl,rfl,rfl⟩ | ⟨rfl,rfl,rfl,rfl,rfl⟩ | ⟨rfl,rfl,rfl,rfl,rfl⟩<;>kernel_rfl):G:=h
theorem fu(h:G:=by
 intro i j b hi hj hne hb hb'
 by_cases e':i=id
 .subst e'
  rw[nT]at hb
  rw[gY (yAU hne)]at hb'
  exact hoth j b hj (yAU hne) hb' hb
 .rw[gY e']at hb
  by_cases e'':j=id
  .subst e''
   rw[nT]at hb'
   exact hoth i b hi e' hb hb'
  .rw[gY e'']at hb'
   exact hs.inj i j b hi hj hne hb hb'):G:=h
theorem fy(h:G:=by
 have h1:=yAL (λl=>l[0]?) uK
 simp only[yAv,yBh,yBk,yBi]at h1
 rw[yAJ (by decide),yAh (show d*5+4<w9.length by omega)]at h1
 exact yAS h1):G:=h
theorem ga(h:G:=by
 refine cell (by simp only[gQ,hu]) (λcs e=>?_)
 subst e
 simp[hu,Cell.okWide,Cell.ok]at hv):G:=h
theorem gh(h:G:=by
 exact⟨.aH [bE,.int .i64 10],σ2.set 2 (.box bE),by simp[bV,v2,bE],.inl ⟨by omega,rfl⟩⟩):G:=h
theorem gi(h:G:=by
 simp(disch:=first|omega|(simp;done)|(simp;omega)) [yAu,nI,z]<;>try rfl):G:=h
theorem gj(h:G:=by
 apply yCo
 intro i
 simp only[Array.toList_modify,yAo,List.getElem?_modify,yCZ,yAe]
 by_cases hij:j=i
 .subst hij
  have hlt:j<ents.toList.length:=(yA.1 g2).1
  simp only[g2,yAC,yAK,yAJ hlt];rfl
 .simp only[yAI hij,Option.map_map]
  cases ents.toList[i]?<;>simp):G:=h
theorem gl(h:G:=by
 simp only[hc]at h ⊢
 exfalso
 cases op with
 |box t x=>cases hop
 |call c=>
  obtain⟨callee,args,ts⟩:=c
  cases callee with
  |value f=>simp[pop,eS,dK]at h
  |invoke r m=>simp[eC]at hm
  |builtin b=>cases b<;>first|(simp[eC]at hm;done)|cases hop
 |_=>simp[eC]at hm):G:=h
theorem gm(h:G:=by
 refine⟨⟨fr,σ,.aH [],none⟩::tr,?_,?_⟩
 .simp only[qA,hw,yAx,yAN,hka,h1]
 .intro j o' ho' hm
  cases j with
  |zero=>
   rw[TE.xH,TE.R2,TE.R3 h1]
   exact⟨yAk _,λ_ _ _=>rfl⟩
  |succ j=>
   rw[TE.xH,TE.xH]
   exact h2 j o' (by simpa using ho') hm):G:=h
theorem gp(h:G:=by
 have h:=yAL List.length e
 rw[yAD,yAO]at h
 omega):G:=h
theorem gq(h:G:=by
 constructor
 .rintro(h1 | ⟨h1,h2 | ⟨h2,h3⟩⟩)<;>omega
 .rintro(h1 | ⟨h1,h2⟩)
  .exact .inl h1
  .by_cases e:b=s
   .subst h1;subst e;exact .inr ⟨rfl,.inr ⟨rfl,by have:=hgl k;omega⟩⟩
   .exact .inr ⟨h1,.inl (by omega)⟩):G:=h
theorem gr(h:G:=by
 subst e
 rw[ho]at hoj;simp only[yAb]at hoj;subst hoj
 refine⟨?_,λhw=>?_,λhw=>?_⟩
 .simp[e1]
 .simp only[yAK]at hw ⊢
  simp only[yDI,yAN,e2]
  exact hrun hw
 .simp only[yAK]at hw ⊢
  simp only[yDI,yAN,e2]
  exact hskip hw):G:=h
theorem gu(h:G:=by
 obtain⟨r1,r3,d1,d3,c3,s3⟩:=JD hcf
 unfold fW
 simp only[JF,JE]
 exact⟨r1,d1⟩):G:=h
theorem gv(h:G:=by
 rename_i hne
 refine rJ.wpIn (ih hF h hs hX hf hm hr m _ λc1 a1 e1 hs1 lY jF pI=>?_)
 have:=hQ c1 a1 e1 hs1 lY jF pI
 obtain⟨x',aX,ms1,σ1⟩:=r
 cases x' with
 |normal=>exact absurd h (hne _ _ _)
 |ret=>exact this
 |exit k=>exact this):G:=h
theorem gw(h:G:=by
 cases rs with
 |nil=>exact absurd hne.1 (by decide)
 |cons a b=>exact⟨a,b,rfl⟩):G:=h
theorem gy(h:G:=by
 have h1:=(fT id (yA.1 hy).1).trans hy
 rw[g6 id (λe=>by rw[e]at h1;rw[ucD]at h1;exact(hR _ ht).1 (aA.row.inj (yAS h1)).1.symm)]
 exact cE id _ h1 (λhp e=>by
  have h2:=hrow hp
  rw[<-e,hy]at h2
  exact(hR _ ht).2 (aA.row.inj (yAS h2)).1)):G:=h
theorem gz(h:G:=by
 split at h
 rotate_left
 .cases h
 split at h
 rotate_left
 .cases h
 rename_i hq
 split at h
 rotate_left
 .cases h
 simp only[yAb,yAc]at h
 rw[<-h.2]
 intro e
 have h1:=yAL List.length e
 rw[yAD,yAO]at h1
 rw[yAf h1]at hq
 cases hq):G:=h
theorem ia(h:G:=by
 exact⟨_,_,rfl,oO⟩):G:=h
theorem ic(h:G:=by
 exact⟨h,by simp,λa ha b hb e=>hs (by simp at hb;rw[<-hb,<-e];exact ha)⟩):G:=h
theorem ij(h:G:=by
 rw[hadd]
 refine K5 (hs.fresh _ (yAk _)) (λid o hd ho hb=>?_)
 have:=hs.lt id _ hd hb
 simp at this):G:=h
theorem iq(h:G:=by
 exact chkO_of hR.1):G:=h
theorem ir(h:G:=by
 obtain⟨a,ha,rfl⟩:=yBT h
 have h1:=(hO.at_ a (by rw[<-hO.len];exact ha)).1
 rw[yAh ha]at h1
 rw[yAS h1];rfl):G:=h
theorem iu(h:G:=by
 have hkm:k'%n<n:=yBC _ hn0
 have lZ:k'%n<zv.cells.size:=by omega
 have hlt2:k'%n<z.cells.length:=by omega
 simp[hk,hzs,hlt2]at hv hd
 subst hv;subst hd
 exact hzc.2 (k'%n) _ _ (by simp[lZ]) (by simp[hlt2])):G:=h
theorem iw(h:G:=by
 rw[yAo]at hd
 cases h0:ds[i]? with
 |none=>rw[h0]at hd;cases hd
 |some d0=>
  rw[h0]at hd
  simp only[yAC,yAb]at hd
  subst hd
  exact ih k (by omega) u d0 (h2 i u d0 hu h0) (FX hf (yAw.2 ⟨d0,yAE h0,rfl⟩))):G:=h
theorem iy(h:G:=by
 exact⟨_,_,hv,e1,λ_ _ h=>h.resize⟩):G:=h
theorem iz(h:G:=by
 exact hE hF hg hgo hs hX hv):G:=h
theorem ja(h:G:=by
 exact .int _ _):G:=h
theorem jb(h:G:=by
 have:(⟨b,off,none⟩:Addr).add (z.toNat*n)=⟨b,off+z.toNat*n,none⟩:=by unfold Addr.add;split<;>simp_all
 have hz:z<(len:Int):=by omega
 simp[Instr.indexAt,asIntOf,yAM hu,Instr.sureAddr,h0,hz,oH hn,this]):G:=h
theorem jc(h:G:=by
 rw[yAh ha]at h1
 rw[yAS h1];rfl):G:=h
theorem jd(h:G:=by
 split at hst
 .split at hst
  .split at hst
   .simp only[yAb]at hst;subst hst;simp
   .cases hst
  .cases hst
 .cases hst):G:=h
theorem je(h:G:=by
 exact⟨v,by simp[execOp,r],q⟩):G:=h
theorem jf(h:G:=by
 rw[yAa]at e3
 exact⟨hL,by omega,e5⟩):G:=h
theorem jg(h:G:=by
 unfold yI
 generalize k%5=j at hlt
 match j,hlt with
 |0,_=>exact hx.2.2.2.2.1
 |1,_=>exact hx.2.2.2.2.2.1
 |2,_=>exact hx.2.2.2.2.2.2.1
 |3,_=>exact hx.2.2.2.2.2.2.2.1
 |4,_=>exact hx.2.2.2.2.2.2.2.2):G:=h
theorem jh(h:G:=by
 simp only[yAb,yAc]at hp ⊢
 obtain⟨rfl,rfl⟩:=hp
 exact⟨⟨rfl,rfl⟩,rfl⟩):G:=h
theorem ji(h:G:=by
 refine bU.normal (m-1) (by omega) (by refine⟨k+1,?_⟩;exact cL (⟨by omega,by omega,hkB⟩))):G:=h
theorem jj(h:G:=by
 have:(⟨b,off,none⟩:Addr).add (z.toNat*n)=⟨b,off+z.toNat*n,none⟩:=by unfold Addr.add;split<;>simp_all
 have hz:z<(m':Int):=by omega
 simp[Instr.indexAt,asIntOf,yAM hu,h0,hz,oH hn,this]):G:=h
theorem jk(h:G:=by
 refine bU.normal (m-1) (by omega) ⟨i+1,false,_,cL (hF)⟩):G:=h
theorem jl(h:G:=by
 split at h
 .rename_i hrec
  simp only[yAb,yAc]at h
  obtain⟨_,rfl,_⟩:=h
  rw[ZA l ms _ _ _ _ _ _ _ t x hrec (λo' ho'=>hn o' (by simp[ho'])),Y9 (hn o (by simp))]
 .cases h):G:=h
theorem jm(h:G:=by
 rw[TE.xH,TE.xH]
 exact h2 j o' (by simpa using ho') hm):G:=h
theorem jn(h:G:=by
 rename_i qU aX σ2 hrec
 simp only[yAb,yAc]at h
 obtain⟨rfl,rfl,rfl⟩:=h
 exact lift p σ1 _ qU hrec rfl (λ_=>⟨by rw[<-hk];exact hp,rfl⟩) (λhf=>by rw[hw]at hf;cases hf)):G:=h
theorem jo(h:G:=by
 intro i b hi hb hlt
 by_cases e':i=id
 .subst e'
  rw[nT]at hb
  rcases h3 with h3|h3
  .exact⟨hi,by rw[<-h3];exact hb⟩
  .have:=h3 b hb;omega
 .rw[gY e']at hb;exact⟨hi,hb⟩):G:=h
theorem jq(h:G:=by
 have e:=(yA.1 (h.at_ i h2).1).2
 rw[e]
 exact(h.at_ i h2).2.wV):G:=h
theorem jr(h:G:=by
 split at hs
 .split at hs
  .split at hs
   .simp only[yAb]at hs
    exact⟨id,_,by simp[kV,h1,gS],hs.symm⟩
   .simp at hs
  .simp at hs
 .simp at hs):G:=h
theorem js(h:G:=by
 have:i=0:=by simpa using hle
 subst this
 refine⟨.slice z [] (match tok with|.full=>.full|.own id=>.own id|_=>.any),?_,z,[],rfl,.inl rfl,rfl,rfl⟩
 cases tok<;>simp[kQ,hu,hi,kT,gL]):G:=h
theorem jt(h:G:=by
 obtain⟨q1,q2⟩:=aCb hb
 cases hx<;>cases hy<;>first|(exact absurd rfl (q1 _))|(exact absurd rfl (q2 _))|rfl|(exact(n1 _ _ _ _ rfl rfl).elim)|(exact(n2 _ _ rfl rfl).elim)):G:=h
theorem ju(h:G:=by
 obtain⟨j,hj,rfl⟩:=yAw.1 h
 have hj':=yAR.1 hj
 exact⟨_,RQ (by omega) _,j,hj',rfl⟩):G:=h
theorem jw(h:G:=by
 refine⟨.int .i64 n,?_,.int _ _⟩
 simp[builtin,Builtin.len_,ht,hv,yAM hu,goInt]):G:=h
theorem jx(h:G:=by
 rw[yEj (by rw[yAe,yAt];omega)]
 simp only[yAe,yAt,yBR (yBQ h),yCk,List.getElem_drop,yBk]):G:=h
theorem jy(h:G:=by
 refine bR ?_
 rw[yAd (yAU (h (by omega)))]
 exact hz):G:=h
theorem jz(h:G:=by
 rw[fV (hs.bQ id hp.1)]at hq1
 simp only[yAb,aA.row.injEq]at hq1
 obtain⟨rfl,rfl,rfl,rfl⟩:=hq1
 exact⟨yAk _,λ_=>⟨rfl,cap,by rw[nT];exact hr,by simp⟩⟩):G:=h
theorem kg(h:G:=by
 rw[yDQ _ _ (by rw[yAe,yAt];omega),yAe,yAt,yBR (yBQ h),yCk,yAq h,yBm,yBI h,yAH,yAi]
 rfl):G:=h
theorem ki(h:G:=by
 exact⟨v,c.w,.inl (by simp[execOp,r]),c,rfl,rfl,hs,.refl _ _,hv,λ_ h=>.inl h⟩):G:=h
theorem kj(h:G:=by
 intro j hj hlt
 by_cases e:j=i
 .subst e
  simp[htr]
 .simp only[yAI e]
  rw[h6 j (by omega) (by simp at hlt;omega),htr,show j-i=(j-(i+1))+1 by omega,yBB]):G:=h
theorem ko(h:G:=by
 rename_i qU aX σ2 hrec
 simp only[yAb,yAc]at h
 obtain⟨rfl,rfl,rfl⟩:=h
 exact lift (.aH []) σ none qU hrec rfl (λht=>absurd ht hw) (λ_=>⟨rfl,rfl⟩)):G:=h
theorem kr(h:G:=by
 refine aI.aG 31 h0 func124 (h:=?_)
 refine aC (A13 h1 h2 @a @a2 @b b2 @c @e hM hG @w q1 @q) ?_
 simp(disch:=first|omega|(simp;done)|(simp;omega)) [yAu,q]<;>try rfl):G:=h
theorem ku(h:G:=by
 simp(disch:=first|omega|(simp;done)|(simp;omega)) [yAu,aY.mk.injEq,hne]<;>try rfl):G:=h
theorem kz(h:G:=by
 constructor
 .rintro(h1 | ⟨h1,h2⟩)<;>omega
 .intro h1
  by_cases e:a=d
  .subst e;exact .inr ⟨rfl,by omega⟩
  .exact .inl (by omega)):G:=h
theorem ld(h:G:=by
 intro i hi
 simp only[Cx.put,yAD]
 exact hs.bQ i hi):G:=h
theorem lf(h:G:=by
 unfold vJ
 simp only
 rw[hn,yDW,yAA,yAh hnd]
 rfl):G:=h
theorem lp(h:G:=by
 by_cases e:i=id
 .subst e;exact nT
 .exact gY e):G:=h
theorem lq(h:G:=by
 rw[fV (hs.bQ id hp.1)]at hq1
 simp only[yAb,aA.row.injEq]at hq1
 obtain⟨rfl,rfl,rfl,rfl⟩:=hq1
 exact⟨yAk _,λ_=>⟨rfl,C2,nT,by simp⟩⟩):G:=h
theorem lu(h:G:=by
 rw[s1,yAD]
 exact⟨⟨by omega,by omega⟩,by simp,by simp[e2];omega⟩):G:=h
theorem lz(h:G:=by
 exact absurd (aA.row.inj (yAS h1)).1 (by decide)):G:=h
theorem mb(h:G:=by
 split at h
 .rename_i hrec
  simp only[yAb,yAc]at h
  obtain⟨rfl,rfl,rfl⟩:=h
  rw[aAa l ms _ _ _ _ _ _ _ hrec hc.2,aFG hd]
 .cases h):G:=h
theorem me(h:G:=by
 rw[yAo]at hd
 cases hx:ds[i]? with
 |none=>rw[hx]at hd;simp at hd
 |some x=>
  rw[hx]at hd;simp only[yAC,yAb]at hd;subst hd
  exact ih i v x hv hx):G:=h
theorem mg(h:G:=by
 rw[yBh]at hj
 simpa using hj):G:=h
theorem mh(h:G:=by
 simp only[yAb]at e hp'
 subst hp'
 rw[e];exact hp):G:=h
theorem mj(h:G:=by
 rw[<-pA]at h
 rcases yCN h with h|h
 .exact gP g h
 .rw[h];rfl):G:=h
theorem mm(h:G:=by
 simp only[e1]
 rw[fY h]
 rfl):G:=h
theorem mo(h:G:=by
 subst e1
 subst e2
 simp only[yAK]at e
 simp only[hz]at k k' l l' p1 p2
 exact⟨rfl,hst.inj s s' g g' k k' l l' p1 p2 e⟩):G:=h
theorem mq(h:G:=by
 have h1:=(yA.1 e4).1
 refine⟨?_,by omega⟩
 by_cases h0:i=0
 .rw[e3 h0];omega
 .rw[e2 (by omega)];exact(hrow (by omega)).1):G:=h
theorem mu(h:G:=by
 obtain⟨N,h⟩:=h
 exact .step (N:=N) λn hn=>by
  simp only[jW,h n hn]
  obtain⟨x,a,b,c⟩:=r
  cases x<;>first|exact absurd rfl hr|rfl):G:=h
theorem mw(h:G:=by
 rcases LL h1 h2 with⟨hb,h⟩ | ⟨hb,hc,h⟩ | ⟨hb,hc,h⟩
 .rw[yAI hb]
  exact h
 .exact hc.elim
 .rw[yAJ (yDj.1 hb)]
  exact h):G:=h
theorem mz(h:G:=by
 exact⟨⟨o1.plain.1,o1.plain.2,o1.oI (by decide) (λt ht=>ht.elim id False.elim) (rP hg rfl) (hA.aS way i λ_=>hy) (wE o3)⟩,o2,o3⟩):G:=h
theorem ng(h:G:=by
 cases e';exact h9):G:=h
theorem nh(h:G:=by
 unfold DlC at h4
 rcases h4 with⟨rfl,rfl,rfl,rfl⟩ | ⟨rfl,rfl,rfl,rfl⟩ | ⟨rfl,rfl,rfl,rfl⟩ | ⟨rfl,rfl,rfl,rfl⟩<;>kernel_rfl):G:=h
theorem ni(h:G:=by
 have:=Leaves.of (p:=.bool false) (v:=.bool false) C6 (TU.trans KP) (.bool false)
 rw[w4,e4,e3]at this
 exact this):G:=h
theorem nj(h:G:=by
 have hp:0<l.length:=by omega
 exact QW (hr hp) h1 (hg hp) (by rw[hl hp];exact yAk _) l rfl (λi hi=>h i hi (by rw[hl hp];exact hi)) K):G:=h
theorem nk(h:G:=by
 cases i with
 |zero=>simp at hv hd;subst hv;subst hd;exact a1
 |succ i=>exact b2 i v' d (by simpa using hv) (by simpa using hd)):G:=h
theorem nq(h:G:=by
 rcases h3 with h3|h3
 .exact hs.inj i id b hi hd hne hb (by rw[<-h3];exact hb')
 .have:=h3 b hb'
  have:=hs.lt i b hi hb
  omega):G:=h
theorem nt(h:G:=by
 have hne:i+(o::rest).length≠i:=by simp
 simp only[yAI hne]
 rw[show i+(o::rest).length=i+1+rest.length by simp;omega];exact e3):G:=h
theorem nu(h:G:=by
 have hne:i+(o::rest).length≠i:=by simp
 simp only[yAI hne]
 rw[show i+(o::rest).length=i+1+rest.length by simp;omega];exact e4):G:=h
theorem nw(h:G:=by
 obtain⟨ad,q1,q2,_⟩:=a6 j v hj
 exact⟨ad,q1,q2⟩):G:=h
theorem ny(h:G:=by
 refine hk _ _ (λhr e2=>hp (.inr ?_)) (h5 a b c ha hb hc (λx=>hp (.inl x)) hq)
 exact hO.MB a d b s c g ha h hb k hc l hq hr e2):G:=h
theorem oa(h:G:=by
 have hm':=hm
 rw[G8,oS]at hm'
 simp only[yAn,yAR,yBv,yBw]at hm'
 have:=hm' i hi
 rw[eU,ho]at this
 simpa [y8]using this):G:=h
theorem ob(h:G:=by
 intro i b hi hb
 by_cases e':i=id
 .subst e';rw[nT]at hb;exact h5 b hb
 .rw[gY e']at hb;exact yBS (hs.lt i b hi hb) h0.2.2.2):G:=h
theorem oe(h:G:=by
 obtain⟨N,h⟩:=h
 obtain⟨M,k⟩:=k
 exact .step (N:=max N M) λn hn=>by simp only[jW,h n (by omega)];exact k n (by omega)):G:=h
theorem og(h:G:=by
 obtain⟨d1,d2⟩:=hdone s h (by omega)
 exact⟨d1,d2.aM (by omega) λid o h1 h2=>by rw[iJ id (by omega)];exact h2⟩):G:=h
theorem oh(h:G:=by
 refine yCT.2 ⟨k,yAR.2 hk,?_⟩
 rw[yAJ hs]
 refine yDr.2 ⟨i,yAR.2 hi,?_⟩
 rw[hli,hlo]
 rfl):G:=h
theorem om(h:G:=by
 exact⟨⟨o1.plain.1,o1.plain.2,o1.oI (by decide) (λt ht=>ht) (rP hg rfl) (hA.aS way i λ_=>hy) (wE o3)⟩,o2,o3⟩):G:=h
theorem oq(h:G:=by
 have hz:id<σ1.length:=by omega
 rw[hk id _ (λhp=>by have:=(hO.draw h k l hp).1;omega) (yAh hz),<-h2 id hi,yAh hz]):G:=h
theorem ot(h:G:=by
 refine hk id x (λhp e=>?_) (h3 id x hx hi)
 have:=(hO.draw h k l hp).2
 rw[<-e,hi]at this
 exact hx _ (yAS this)):G:=h
theorem ou(h:G:=by
 obtain⟨k,_,rfl⟩:=hv
 have lZ:k%zv.cells.size<zv.cells.size:=yBC _ (by omega)
 apply hz1
 simp[lZ]):G:=h
theorem oz(h:G:=by
 have h1:=z7.rest d s g hi (by omega) hgL (by omega) (by rw[hyl hgL];exact hp)
 rw[hyl hgL]at h1
 exact h1):G:=h
theorem pg(h:G:=by
 obtain⟨b1,b2,e1,e2,e3,e4,e5⟩:=key _ xs ys h
 exact⟨b1,b2,e1,e2,e3,by simpa using e4,by simpa using e5⟩):G:=h
theorem pq(h:G:=by
 refine⟨v,w',.inl ?_,hl⟩
 simp only[execOp,resolve,invoke,builtin,yBb,yBo,yBg]
 simp[hx2,r]):G:=h
theorem qc(h:G:=by
 simp only[yAb]at ha
 subst ha
 simpa only[kV,bH]using h):G:=h
theorem qd(h:G:=by
 simp only[yBr]at hv
 rcases hv with(hv|hv)|hv
 .exact h1c v (yAy hv)
 .exact yQ v hv
 .exact h1c v (yBd hv)):G:=h
theorem qe(h:G:=by
 simp only[yAb,yAc]at h;exact h.2.symm):G:=h
theorem qf(h:G:=by
 have:nP P call fl ops fr σ=some (fr',σ'):=by
  unfold nP
  simp only[hr,yAK,hh,hd,hf]
 unfold mP
 rw[this]):G:=h
theorem qg(h:G:=by
 rw[yDk,yAH]
 congr 1
 simp[yAA,hi,ha]):G:=h
theorem qh(h:G:=by
 intro i p hi hp
 have e':i≠id:=by rintro rfl;rw[hq]at hp;cases hp
 exact⟨gY e',p,by rw[eH e'];exact hp⟩):G:=h
theorem qi(h:G:=by
 exact⟨v,by simp[Instr.loadAt,Instr.sureAddr,r],q⟩):G:=h
theorem qj(h:G:=by
 cases e with
 |returned v=>exact hK v w'' he
 |panicked chain=>exact he.elim
 |outgrown=>exact he.elim):G:=h
theorem qk(h:G:=by
 exact KC hU l (i+1) _ _ _ ho.2 h):G:=h
theorem ql(h:G:=by
 refine aC (A6 h1 hF @b @w @c @e) ?_
 simp(disch:=first|omega|(simp;done)|(simp;omega)) [yAu,b,c,e]<;>try rfl):G:=h
theorem qm(h:G:=by
 simp only[yBB]at h1 hf
 exact RM l ms _ _ _ _ _ _ _ j t id o' hrec h1 ha (by simpa [JC]using hu) hf):G:=h
theorem qn(h:G:=by
 refine bU.normal (m-1) (by omega) (by refine⟨i+1,lU,?_⟩;exact cL (⟨by omega,by rw[hst];exact hs⟩))):G:=h
theorem qo(h:G:=by
 simp only[execOp,resolve,e,Deferred.ofValue,yBb,yBo,yBg,invoke,callFunc,run_program,hfn,hn,hb',yAx,yAN,e2]):G:=h
theorem qp(h:G:=by
 intro i hi hn
 have e':i≠id:=by rintro rfl;rw[hq]at hn;exact hn
 exact⟨gY e',by rw[eH e'];exact hn⟩):G:=h
theorem qq(h:G:=by
 simp only[Instr.storeAt,Instr.sureAddr,yBb,yBo,yBg,storeVar,oH hn,hsz,ne_eq,yBK,yAN]
 exact hst):G:=h
theorem qt(h:G:=by
 obtain⟨r,_,rfl⟩:=yAw.1 h
 rfl):G:=h
theorem qu(h:G:=by
 exact absurd e (by decide)):G:=h
theorem qv(h:G:=by
 simp only at h ⊢
 split at h
 .rename_i p σ1 hp
  rw[OQ hp]
  exact OR h
 .cases h):G:=h
theorem qw(h:G:=by
 have:=OE 12 t ks _ _ _ _ b h (.inl ⟨ha,rfl⟩) (.inl ⟨ha,rfl⟩) hc
 simp only[eM,qO,hg,yAx,yAN,this]):G:=h
theorem qx(h:G:=by
 refine aC (A3 @a @b @c) ?_
 simp(disch:=first|omega|(simp;done)|(simp;omega)) [yAu,wC,a,b,c]<;>try rfl):G:=h
theorem qy(h:G:=by
 rw[Q4]at hL
 exact⟨hL,by rw[yAa,yAD];omega,e5⟩):G:=h
theorem qz(h:G:=by
 intro i hi _
 exact eH (by omega)):G:=h
theorem ri(h:G:=by
 obtain⟨e,he,hb⟩:=Array.any_eq_true'.1 this
 simp only[yAr,yCf]at hb
 exact⟨e,he,hb.1,hb.2⟩):G:=h
theorem rj(h:G:=by
 simp only[qA,hw,yAK,hka,yAx,yAN]
 rw[OS (hsh o (by simp)) hka]
 simp only[Bool.or_true,hst.1,h1]):G:=h
theorem rm(h:G:=by
 rename_i e
 simp only[yAb]at h2
 subst h2
 rw[e]at h1
 simpa only[kV,bH]using h1):G:=h
theorem rq(h:G:=by
 refine aC (A3 @a @b @c) ?_
 simp(disch:=first|omega|(simp;done)|(simp;omega)) [yAu,mY,a,b,c]<;>try rfl):G:=h
theorem ru(h:G:=by
 rw[bT]
 exact(aW.set b0 _).trans (aW.app R _ _)):G:=h
theorem rz(h:G:=by
 simp only[yBB]at h1 h2
 rw[yEh]at hc
 exact aAb l ms _ _ _ _ _ _ _ hrec j a t h1 h2 hc):G:=h
theorem si(h:G:=by
 refine aC (A2 @a @c) ?_
 simp(disch:=first|omega|(simp;done)|(simp;omega)) [yAu,wC,a,c]<;>try rfl):G:=h
theorem sj(h:G:=by
 refine aC (A2 @a @b) ?_
 simp(disch:=first|omega|(simp;done)|(simp;omega)) [yAu,mL,a,b]<;>try rfl):G:=h
theorem so(h:G:=by
 rw[yAI e1,yAI e2]at e
 exact hiW d d' s s' g g' h h' k k' l l' (by omega) (by omega) p1 p2 e):G:=h
theorem su(h:G:=by
 refine aC (A2 @a @b) ?_
 simp(disch:=first|omega|(simp;done)|(simp;omega)) [yAu,a,b]<;>try rfl):G:=h
theorem sw(h:G:=by
 have e:kB.dec (.int .u8 f)=some f:=Em.dC rfl
 unfold entry cU
 simp only[e]
 rw[fY hf]
 rfl):G:=h
theorem sy(h:G:=by
 simp[Instr.sliceAt,Instr.slice,yAM hu,b3,oH hn]):G:=h
theorem tc(h:G:=by
 simp only[yBf,yAa]at this ⊢
 omega):G:=h
theorem td(h:G:=by
 simp only[Lit.wf,IntKind.min,IntKind.max,IntKind.signed,IntKind.bits]at hz
 simp at hz
 omega):G:=h
theorem tf(h:G:=by
 exact⟨v,by simp[hg,r],q⟩):G:=h
theorem tj(h:G:=by
 have:=qS ho
 have h2:ops.toList.length<=i:=List.drop_eq_nil_iff.1 hdrop
 simp at h2;omega):G:=h
theorem tq(h:G:=by
 rename_i h;subst h;simp[gF,ht]):G:=h
theorem tv(h:G:=by
 exact⟨.aH [bE,.int .i64 10],σ2.set 2 (.box bE),by simp[bV,v2,bE],.inl ⟨hneg,rfl⟩⟩):G:=h
theorem tw(h:G:=by
 cases A<;>simp[Builtin.append_,yAM hu,sizeOf,typeInfo,hi,Builtin.lenOf,hfy,hn,storeCells]):G:=h
theorem ua(h:G:=by
 split at h
 .simp only[yAb,yAc]at h
  obtain⟨rfl,_,_⟩:=h
  rfl
 .cases h):G:=h
theorem uc(h:G:=by
 subst this
 simp[Builtin.firstCells]):G:=h
theorem ud(h:G:=by
 rw[yAg (yA.1 h).1]
 exact h):G:=h
theorem ue(h:G:=by
 cases dK P fl fr σ op with
 |none=>rfl
 |some x=>obtain⟨p,σ'⟩:=x;simp[PV,aCx]):G:=h
theorem uf(h:G:=by
 unfold mB
 rw[yAt,yBa,yBf,hcur]
 exact kk):G:=h
theorem ug(h:G:=by
 simp only[PD.cells]at hdm
 simp only[PD.cI,PD.tP]at hxf
 exact yAn.1 hxf d hdm):G:=h
theorem uh(h:G:=by
 rw[yAI e1,yAI e2]at e
 exact hinj s s' g g' h h' k k' (by omega) (by omega) p1 p2 e):G:=h
theorem uj(h:G:=by
 show(Instr.checkKey e (9999+1) kt _).run P w=_
 unfold Instr.checkKey
 simp[yAM hu]):G:=h
theorem uk(h:G:=by
 simp only[yAb,yAc]at hp ⊢
 exact⟨⟨hp.1,by rw[hp.2]⟩,by rw[hp.2]⟩):G:=h
theorem um(h:G:=by
 rename_i hx
 have e:=(eW hf hx).AZ
 exact⟨_,by simp[execOp,e,asBool],eW hf h⟩):G:=h
theorem uo(h:G:=by
 rintro rfl
 rw[fV (hs.bQ i hd)]at hi'
 simp only[yAb]at hi';subst hi';exact hn'):G:=h
theorem uq(h:G:=by
 cases b1 with
 |true=>simpa [e3]using q2
 |false=>simp[e3]):G:=h
theorem ur(h:G:=by
 intro i j b' hi hj hne h5 h6
 rw[hρ]at h5 h6
 exact hs.inj i j b' hi hj hne h5 h6):G:=h
theorem uu(h:G:=by
 rcases hh with rfl | ⟨B8,m1,rfl⟩
 .exact λσ' k K=>pT σ' k K
 .exact pT):G:=h
theorem uv(h:G:=by
 simp(disch:=first|omega|(simp;done)|(simp;omega)) [yAu,bB,aU,bA,bD,bZ,sz]<;>try rfl):G:=h
theorem uw(h:G:=by
 simp only[yBL]at e
 rw[e.1]
 rfl):G:=h
theorem ux(h:G:=by
 exact⟨.pointer (some ⟨b,off,none⟩),by simp[execOp,e],by rw[<-e];exact hv⟩):G:=h
theorem uy(h:G:=by
 rw[hu]at hv
 obtain⟨cs,e,_⟩:=hv
 exact row (by simp only[gQ,hu]) ⟨cs,e⟩):G:=h
theorem uz(h:G:=by
 rw[yAd (yAU (hz (by omega)))]
 exact h):G:=h
theorem ve(h:G:=by
 simp only[yBa]at hz
 exact aA1 h1 (by rw[h2,hlen]) (by omega)):G:=h
theorem vf(h:G:=by
 simp(disch:=first|omega|(simp;done)|(simp;omega)) [yAu,bP.mk.injEq,e0]<;>try rfl):G:=h
theorem vh(h:G:=by
 simp(disch:=first|omega|(simp;done)|(simp;omega)) [yAu,bP.mk.injEq,e1]<;>try rfl):G:=h
theorem vj(h:G:=by
 simp(disch:=first|omega|(simp;done)|(simp;omega)) [yAu,bP.mk.injEq,e2]<;>try rfl):G:=h
theorem vl(h:G:=by
 simp(disch:=first|omega|(simp;done)|(simp;omega)) [yAu,bP.mk.injEq,e3]<;>try rfl):G:=h
theorem vm(h:G:=by
 simp(disch:=first|omega|(simp;done)|(simp;omega)) [yAu,bP.mk.injEq,e4]<;>try rfl):G:=h
theorem vn(h:G:=by
 simp(disch:=first|omega|(simp;done)|(simp;omega)) [yAu,cO.mk.injEq,e0]<;>try rfl):G:=h
theorem vo(h:G:=by
 simp(disch:=first|omega|(simp;done)|(simp;omega)) [yAu,cO.mk.injEq,e1]<;>try rfl):G:=h
theorem vp(h:G:=by
 simp(disch:=first|omega|(simp;done)|(simp;omega)) [yAu,cO.mk.injEq,e2]<;>try rfl):G:=h
theorem vr(h:G:=by
 simp(disch:=first|omega|(simp;done)|(simp;omega)) [yAu,bO.mk.injEq,e0]<;>try rfl):G:=h
theorem vu(h:G:=by
 simp(disch:=first|omega|(simp;done)|(simp;omega)) [yAu,bO.mk.injEq,e1]<;>try rfl):G:=h
theorem vw(h:G:=by
 simp(disch:=first|omega|(simp;done)|(simp;omega)) [yAu,bO.mk.injEq,e2]<;>try rfl):G:=h
theorem vz(h:G:=by
 simp(disch:=first|omega|(simp;done)|(simp;omega)) [yAu,bO.mk.injEq,e3]<;>try rfl):G:=h
theorem wg(h:G:=by
 simp(disch:=first|omega|(simp;done)|(simp;omega)) [yAu,aY.mk.injEq,e0]<;>try rfl):G:=h
theorem wj(h:G:=by
 have:s=⟨s.data.toList.toArray⟩:=by simp
 conv=>lhs;rw[this]
 exact .str _):G:=h
theorem wm(h:G:=by
 have:(j+1)*n<=(j+1+qs.length)*n:=yBH _ (by omega)
 rw[yBz]at this;omega):G:=h
theorem wo(h:G:=by
 simp only[fK,yAb]at h
 subst h
 exact⟨[],rfl,λj o h=>by simp at h⟩):G:=h
theorem wq(h:G:=by
 exact aAw rfl (by simp[jB,hW.symm];rfl)):G:=h
theorem wu(h:G:=by
 obtain⟨r,h1,p1,σ1,h2,h3⟩:=h.ex
 exact⟨p1,σ1,.body hE hf hb h1 h2,h3⟩):G:=h
theorem xe(h:G:=by
 rw[yAI e1,yAI e2]at e
 exact hiS d d' h h' (by omega) (by omega) p1 p2 e):G:=h
theorem xg(h:G:=by
 rw[yAJ h1]
 exact⟨λe=>absurd e h1,λe=>absurd (e.1 r (yBe ..)) h1⟩):G:=h
theorem xh(h:G:=by
 obtain⟨ad,e',_⟩:=a6 0 flx[0] (by simp[this])
 cases e'):G:=h
theorem xj(h:G:=by
 unfold eU at this that
 rw[ho']at this that
 exact⟨this,that⟩):G:=h
theorem xm(h:G:=by
 rcases hsz with h0|h0
 .rw[a4,h0];simp
 .rw[a4,h0]):G:=h
theorem xo(h:G:=by
 unfold fS at hf
 split at hf
 .exact absurd hf (by decide)
 .omega):G:=h
theorem xp(h:G:=by
 exact⟨xs,DA hx (λg hg=>h.block g (hs.lt id g hd hg) (by simp))⟩):G:=h
theorem xq(h:G:=by
 rcases yBr.1 h with h|h
 .exact .inl (yAy h)
 .exact .inl (yBd h)):G:=h
theorem xu(h:G:=by
 rw[dif_pos hx]
 exact yAL some ((Classical.choose_spec hx).2.unique h)):G:=h
theorem xw(h:G:=by
 exact .agg cs ds hl h1 (λi v d hv hd=>ih i v d hv hd (at_ hp hd))):G:=h
theorem xx(h:G:=by
 split at v1
 .rename_i hq
  rw[hk _ _ hq]
  exact v1
 .cases v1):G:=h
theorem xy(h:G:=by
 simp only[yAb]at h ⊢
 subst h
 rw[yE _ _ hlt]):G:=h
theorem xz(h:G:=by
 obtain⟨i,hi⟩:=yDi ho
 exact hr.shape i o (by simpa using hi)):G:=h
theorem ya(h:G:=by
 simp only[yAb]at ho
 exact⟨_,_,_,ho.symm,hj⟩):G:=h
theorem yb(h:G:=by
 simp only[yAb,yAc]at hrun ⊢
 exact⟨hrun.1,trivial⟩):G:=h
theorem yc(h:G:=by
 rw[yAq (by omega),yDl]at hat
 exact(List.cons.inj hat).1):G:=h
theorem yd(h:G:=by
 exact .aH cs ds hl (λi v d hv hd=>ih i v d hv hd (at_ hp hd))):G:=h
theorem ye(h:G:=by
 simp only[yAb]at h;subst h
 exact⟨by simpa [PD.cells],rfl⟩):G:=h
theorem yf(h:G:=by
 rw[yAJ h1]
 exact⟨λe=>absurd e h1,λe=>absurd e.1 h1⟩):G:=h
theorem yg(h:G:=by
 rw[hB]at k2 ⊢
 clear hB hK
 simp only[bZ,bC]at k1 k2 ⊢
 have hz:=h0
 refine aI.aG 61 h0 func43 (h:=?_)
 refine aC (A4 h1 k1 h2 k2) ?_
 exact ag):G:=h
theorem yh(h:G:=by
 rintro m fr σ ⟨i,gg,hI,rfl,rfl⟩
 obtain⟨hm,hs⟩:=hI
 by_cases hi:i<l.length
 .have q1:(i:Int)<(l.length:Int):=by omega
  have hir:i<r.length:=by omega
  have q2:(i:Int)<(r.length:Int):=by omega
  obtain⟨a,ha⟩:=gn (l[i])
  obtain⟨b,hb⟩:=gn (r[i])
  have eQ:l.drop i=a::l.drop (i+1):=by rw[yAq hi,ha]
  have hc2:r.drop i=b::r.drop (i+1):=by rw[yAq hir,hb]
  rw[eQ,hc2,tF]at hs
  obtain⟨a0,a1⟩:=a
  obtain⟨b0,b1⟩:=b
  by_cases e0:a0=b0
  rotate_left
  .rw[show decide ((⟨a0,a1⟩:dQ)=⟨b0,b1⟩)=false by simp[e0],yAY]at hs
   refine aC (A7 q1 q2 hi hir ha @hb @e0) ?_
   exact cj
  by_cases e1:a1=b1
  rotate_left
  .rw[show decide ((⟨a0,a1⟩:dQ)=⟨b0,b1⟩)=false by simp[e1],yAY]at hs
   refine aC (A8 q1 q2 hi hir ha @hb @e0 e1) ?_
   exact cj
  rw[show decide ((⟨a0,a1⟩:dQ)=⟨b0,b1⟩)=true by simp[e0,e1],yBq]at hs
  refine aC (A8 q1 q2 hi hir ha @hb @e0 e1) ?_
  exact bp
 .have q1:¬(i:Int)<(l.length:Int):=by omega
  rw[yAs (by omega),yAs (by omega)]at hs
  have cM:B=true:=hs.symm
  refine aC q1 ?_
  exact aq):G:=h
theorem yj(h:G:=by
 have cM:B=false:=hs.symm
 refine aC (A8 q1 q2 hi hir ha @hb j0 j1) ?_
 first|refine Wp.seq ?_|skip
 apply Wp.oE
 refine nL (A4 h1 hE j0 j1) ?_
 apply SQ.nil
 refine aC q1 ?_
 exact aq):G:=h
theorem ym(h:G:=by
 have hz:=h0
 refine aI.aG 96 h0 func21 (h:=?_)
 refine aC (A12 h1 k1 h2 k2 h3 k3 bK w1 w2 hil hiq hie) ?_
 exact ay):G:=h
theorem yo(h:G:=by
 rw[yAs (by omega),yAs (by omega)]at hs
 have cM:B=true:=hs.symm
 refine aC q1 ?_
 exact aq):G:=h
theorem yp(h:G:=by
 have q1:¬(i:Int)<(l.length:Int):=by omega
 rw[yAs (by omega),yAs (by omega)]at hs
 have cM:B=true:=hs.symm
 have q2:¬(i:Int)<(r.length:Int):=by omega
 refine aC (A2 q1 q2) ?_
 exact aq):G:=h
theorem yq(h:G:=by
 have hz:=h0
 refine aI.aG 83 h0 func24 (h:=?_)
 refine aC (A8 h3 k3 bK w1 w2 hil hiq hie) ?_
 exact ay):G:=h
theorem yu(h:G:=by
 have cM:B=(i:Int):=hs.symm
 have yL:V=i+1:=by omega
 rw[yAX hb]at hE
 rw[cM,yL,D8]
 clear hs cM
 refine aC (A3 q1 hi ha) ?_
 first|refine Wp.seq ?_|skip
 apply Wp.oE
 refine nL (A4 h1 hE hi ha) ?_
 apply SQ.nil
 refine aC q1 ?_
 exact az):G:=h
theorem yw(h:G:=by
 refine aC q1 ?_
 exact aq):G:=h
theorem yx(h:G:=by
 have q1:¬(i:Int)<(l.length:Int):=by omega
 obtain rfl:i=l.length:=by omega
 rw[yCD]at hs hv
 have cM:B=-1:=hs.symm
 have yL:V=l.length:=by simpa [lE]using hv.symm
 rw[cM,yL]
 refine aC q1 ?_
 exact az):G:=h
theorem yy(h:G:=by
 have hz:=h0
 refine aI.aG 96 h0 func21 (h:=?_)
 refine aC (A9 h1 k1 h2 k2 h3 k3 bK w1 w2) ?_
 exact cr):G:=h
theorem yz(h:G:=by
 have hz:=h0
 refine aI.aG 83 h0 func24 (h:=?_)
 refine aC (A5 h3 k3 bK w1 w2) ?_
 exact cr):G:=h
theorem ze(h:G:=by
 intro i st fr ps asg bd hi hm
 have e':i≠id:=by rintro rfl;rw[fV (hs.bQ i hd)]at hm;cases hm
 rw[eH e']at hm
 obtain⟨b',r,e1,e2,e3,e4,e5,e6,e7⟩:=hs.loop i st fr ps asg bd hi hm
 refine⟨b',r,(gY e').trans e1,?_,e3,e4,e5,e6.mono nx,e7⟩
 exact bu):G:=h
theorem zf(h:G:=by
 have c0:¬kd<1:=by omega
 obtain⟨eA,eB⟩:=hAB (by omega)
 obtain rfl:A=4:=by omega
 have b1:¬B=1:=by omega
 have g1:7<=kd:=by omega
 have g2:¬kd<=9:=by omega
 have wh:gT kd=4:=by unfold gT;rw[yAI c0];rw[yAI (by omega)];omega
 exact ax):G:=h
theorem zg(h:G:=by
 intro i es hi ho
 have e':i≠id:=by rintro rfl;rw[fV (hs.bQ i hd)]at ho;cases ho
 rw[eH e']at ho
 obtain⟨b',ents,clock,e1,e2,e3,e4⟩:=hs.map i es hi ho
 refine⟨b',ents,clock,(gY e').trans e1,?_,e3.mono nx,e4.mono nx⟩
 exact bu):G:=h
theorem zi(h:G:=by
 intro i p hi hp
 have e':i≠id:=by rintro rfl;rw[fV (hs.bQ i hd)]at hp;cases hp
 rw[eH e']at hp
 obtain⟨b',cs',T',e1,e2,e3,e4⟩:=hs.box i p hi hp
 refine⟨b',cs',T',(gY e').trans e1,?_,e3.mono nx,e4⟩
 exact bu):G:=h
theorem zj(h:G:=by
 rw[eQ,hc2,tF]at hs
 by_cases e:a=b
 .rw[yAX e,yBq]at hs
  refine aC (A7 q1 q2 hi hir ha @hb @e) ?_
  exact bp
 .rw[yBc e,yAY]at hs
  refine aC (A7 q1 q2 hi hir ha @hb @e) ?_
  exact cj):G:=h
theorem zk(h:G:=by
 intro i hi hm
 have e':i≠id:=by rintro rfl;rw[fV (hs.bQ i hd)]at hm;cases hm
 rw[eH e']at hm
 obtain⟨b',e1,e2⟩:=hs.mark i hi hm
 refine⟨b',(gY e').trans e1,?_⟩
 exact bu):G:=h
theorem zo(h:G:=by
 split at h
 .rename_i hw
  split at h
  .rename_i p σ1 hp
   split at h
   .exact jn
   .exact ak
  .exact ak
 .rename_i hw
  split at h
  .exact ko
  .exact ak):G:=h
theorem zq(h:G:=by
 refine aC (A2 @hb @hz) ?_
 exact az):G:=h
theorem zu(h:G:=by
 refine aC (A2 @hb @f1) ?_
 exact az):G:=h
theorem zx(h:G:=by
 have:=yAL List.head? hd
 rw[yCC]at this
 exact cv):G:=h
theorem zy(h:G:=by
 refine aC (A2 h2 hD) ?_
 exact az):G:=h
theorem zz(h:G:=by
 have j0:∀x:aA,(τ++[x])[τ.length]?=some x:=λx=>by simp
 have q1:(i:Int)<(n:Int):=by omega
 refine aK.aG 29 h0 func85 (h:=?_)
 exact dy):G:=h
theorem Aa(h:G:=by
 have j0:∀x:aA,(τ++[x])[τ.length]?=some x:=λx=>by simp
 have q1:(i:Int)<(n:Int):=by omega
 refine aK.aG 29 h0 func84 (h:=?_)
 exact dy):G:=h
theorem Ab(h:G:=by
 apply yCY
 intro e
 rw[yAI e]at h
 exact ek):G:=h
theorem Ac(h:G:=by
 obtain⟨xr,xv⟩:=yA.1 iT
 have hz:=h0
 refine aK.aG 30 h0 func51 (h:=?_)
 refine aC (A10 @s1 e1 e2 s3 e3 w1 hρ iT xr xv) ?_
 exact ia):G:=h
theorem Ad(h:G:=by
 refine aC (A2 h1 hI) ?_
 exact az):G:=h
theorem Ae(h:G:=by
 refine aC @hb ?_
 exact az):G:=h
theorem Af(h:G:=by
 have hz:=h0
 refine aI.aG 96 h0 func21 (h:=?_)
 refine aC (A15 h1 k1 h2 k2 h3 k3 bK w1 w2 hil hiq hie hdl hdq hde) ?_
 exact ay):G:=h
theorem Ag(h:G:=by
 have:=yAL (List.drop 4) hat
 rw[yDh,yBE]at this
 exact cv):G:=h
theorem Ah(h:G:=by
 obtain rfl:B=1:=by omega
 have g1:¬7<=kd:=by omega
 have wh:gT kd=-1:=by unfold gT;rw[yAI c0];rw[yAJ (by omega)]
 exact bx):G:=h
theorem Ai(h:G:=by
 refine aC (A10 @s1 e1 s3 e3 w1 hρ iT xr xv hx) ?_
 exact ia):G:=h
theorem Aj(h:G:=by
 have hz:=h0
 refine aI.aG 83 h0 func24 (h:=?_)
 refine aC (A11 h3 k3 bK w1 w2 hil hiq hie hdl hdq hde) ?_
 exact ay):G:=h
theorem Ak(h:G:=by
 split at h
 .rename_i q hq;exact(yA.1 hq).1
 .exact ak):G:=h
theorem Al(h:G:=by
 rw[e1,m1]
 exact iq):G:=h
theorem Am(h:G:=by
 have:=yAL List.head? hdrop
 rw[yCC]at this
 exact cv):G:=h
theorem Ao(h:G:=by
 split at h
 .exact ak
 .cases h):G:=h
theorem Ap(h:G:=by
 have sX:A=[]:=yAf hlen
 subst sX
 have ZR:T=0:=by rw[<-hs];rfl
 subst ZR
 refine aC @hlen ?_
 exact az):G:=h
theorem Aq(h:G:=by
 refine aC (A6 j0 @hid hlt @he @c @f0) ?_
 exact az):G:=h
theorem Ar(h:G:=by
 apply SQ.nil
 refine aC trivial ?_
 exact aq):G:=h
theorem As(h:G:=by
 refine aC (A2 h1 hE) ?_
 exact ag):G:=h
theorem At(h:G:=by
 obtain⟨a,ha,rfl⟩:=yBT h
 have h1:=(f2.at_ a (by rw[<-f2.len];exact ha)).1
 exact jc):G:=h
theorem Au(h:G:=by
 have hF:=fin (l'.set i ⟨cn,a+b,d+b,sh,th⟩) true hms (by rw[<-j7];simp[nV])
 exact dw):G:=h
theorem Av(h:G:=by
 refine aC (A5 j0 @hid hlt @he @c) ?_
 exact az):G:=h
theorem Aw(h:G:=by
 obtain⟨a,ha,rfl⟩:=yBT h
 have h1:=(e2.at_ a (by rw[<-e2.len];exact ha)).1
 exact jc):G:=h
theorem Ax(h:G:=by
 rw[yAX e,yBq]at hs
 rw[yAX e]at hE
 refine aC (A8 q1 q2 hi hir ha @hb h1 hE) ?_
 exact bp):G:=h
theorem Ay(h:G:=by
 obtain⟨xr,xv⟩:=yA.1 iT
 have hz:=h0
 refine aK.aG 30 h0 func47 (h:=?_)
 exact ei):G:=h
theorem Az(h:G:=by
 obtain⟨xr,xv⟩:=yA.1 iT
 have hz:=h0
 refine aK.aG 30 h0 func49 (h:=?_)
 exact ei):G:=h
theorem AI(h:G:=by
 obtain⟨xr,xv⟩:=yA.1 iT
 have hz:=h0
 refine aK.aG 30 h0 func50 (h:=?_)
 exact ei):G:=h
theorem AR(h:G:=by
 simp only[dK]at h
 split at h
 .split at h
  .exact qe
  .exact ak
 .exact ak):G:=h
theorem AS(h:G:=by
 refine aI.aG 38 h0 func61 (h:=?_)
 refine aC (A7 h1 h2 h3 e1 e2 e3 e4) ?_
 exact ag):G:=h
theorem Ba(h:G:=by
 rw[e]
 refine aI.aG 38 h0 func111 (h:=?_)
 refine aC (A2 @c @d) ?_
 exact cg):G:=h
theorem Bb(h:G:=by
 refine⟨b',C,cur,(gY e').trans e1,?_,e3,e4,e5,e6,e7.mono nx,e8⟩
 exact bu):G:=h
theorem Bc(h:G:=by
 rw[e]
 refine aI.aG 38 h0 func111 (h:=?_)
 refine aC @c ?_
 exact cg):G:=h
theorem Bd(h:G:=by
 refine aI.aG 23 h0 func45 (h:=?_)
 refine aC (A3 c1 c2 c3) ?_
 exact ag):G:=h
theorem Be(h:G:=by
 refine aC (A13 b1 b2 b3 b4 c2 c3 @d9 @d11 hml hp h2 RL CD) ?_
 exact cz):G:=h
theorem Bf(h:G:=by
 refine hkeep _ _ (λe e2=>?_) h1
 rw[e2,sD e]at h1
 exact lz):G:=h
theorem Bg(h:G:=by
 have:=VR.agg (c:=c) cells'.toList out h2.1 h3 h2.2
 exact cv):G:=h
theorem Bh(h:G:=by exact A2 @hq dN):G:=h
theorem Bi(h:G:=by exact A20 @g0 @g1 @g2 @v0 y0 @v1 y1 @v2 y2 @i1 @i2 h7 k7 u0 u1 u2 r0 x0 r1 (A3 x1 r2 x2)):G:=h
theorem Bj(h:G:=by exact A20 q1 hi4 lN vt rT yT vg rG yG a1 @a2 b1 b2 wa @wd @f1 @f2 @f3 @g1 (A4 @g2 @g3 iH pF)):G:=h
theorem Bk(h:G:=by exact A9 q1 hi xk @v2 r2 y2 fJ hat j0):G:=h
theorem Bl(h:G:=by exact A20 h1 k1 h2 k2 b0 w0 @z0 pR pD pC cR cD cC b1 w1 z1 b2 w2 @z2 (A13 uG h3 k3 h4 k4 @g0 @g1 @v0 y0 @v1 y1 @v2 y2)):G:=h
theorem Bm(h:G:=by exact A20 q1 hi4 lN vt rT yT vg rG yG a1 @a2 b1 b2 wa @wd @f1 @f2 @f3 @g1 (A6 @g2 @g3 iH pF e1 e2)):G:=h
theorem Bn(h:G:=by exact A20 u0 u1 u2 r0 x0 r1 x1 r2 x2 o5 k8 s0 @f0 @d0 pQ cQ pR pD pC (A3 cR cD cC)):G:=h
theorem Bo(h:G:=by exact A20 u0 u1 u2 r0 x0 r1 x1 r2 x2 o5 uJ sU pO s0 @f0 @d0 pQ cQ pR (A5 pD pC cR cD cC)):G:=h
theorem Bp(h:G:=by exact A15 q1 hi4 lN vt rT yT vg rG yG vP hat DY hwr hfl hge):G:=h
theorem Bq(h:G:=by exact A15 q1 hi ha j0 j1 hx1 iA hxe c2 c3 c4 c5 h1 hE @hle):G:=h
theorem Br(h:G:=by exact A14 q1 hi ha j0 hx1 hy1 iA lZ hxe hye h2 hE h3 hA):G:=h
theorem Bs(h:G:=by exact A16 u0 w0 @z0 r0 vR j0 hK xk hi p9 c9 u7 r7 y7 fJ hfl):G:=h
theorem Bt(h:G:=by exact A15 q1 hi4 lN vt rT yT vg rG yG vP hat DY h1 hMi hfl):G:=h
theorem Bu(h:G:=by exact A20 h1 k1 h2 k2 b0 w0 @z0 pR pD pC cR cD cC b1 w1 z1 b2 w2 @z2 (A12 c1 c2 c3 bT @a0 a1 @a2 h6 k6 @t2 @t3 @t4)):G:=h
theorem Bv(h:G:=by exact A20 h1 k1 h2 k2 b0 w0 @z0 pR pC cR cC b1 w1 z1 b2 w2 @z2 uG h3 (A14 k3 h4 k4 @g0 @g1 @v0 y0 @v1 y1 @v2 y2 xk @i1 @i2)):G:=h
theorem Bw(h:G:=by exact A20 @g1 @v1 y1 hDrow vD yD o5 uJ pO ucD s0 @f0 @d0 sD fD dD pQ cQ pR (A9 pC cR cC pS cS uK IZ fJ GB)):G:=h
theorem Bx(h:G:=by exact A20 h1 k1 h2 k2 b0 w0 @z0 pR pC cR cC b1 w1 z1 b2 w2 @z2 uG h3 (A15 k3 h4 k4 @g0 @g1 @v0 y0 @v1 y1 @v2 y2 xk @i1 @i2 hw0)):G:=h
theorem Bz(h:G:=by exact A16 q1 hi4 lN vt rT yT vg rG yG vP hat DY hwr hfl hge @he):G:=h
theorem Ca(h:G:=by exact A20 q1 hi4 lN vt rT yT vg rG yG a1 @a2 b1 b2 wa @wd @f1 @f2 @f3 @g1 (A5 @g2 @g3 iH pF e1)):G:=h
theorem Cb(h:G:=by exact A20 h1 k1 h2 k2 h3 k3 n1 n2 hOB jO jS bT c0 c1 c2 c3 w0 w1 w2 (A20 w3 @z0 z1 @z2 @z3 pR pD pC cR cD cC h4 k4 h7 k7 h5 k5 u0 u1 (A20 u2 u3 @v0 @v1 @v2 @v3 y0 y1 y2 y3 s0 @s1 @s2 s3 @f0 @f1 @f2 @f3 @d0 (A20 @d1 @d2 @d3 pQ cQ j3 h6 k6 @a5 r5 x5 @t2 r2 x2 pR pD pC cR cD (A3 cC pQ cQ))))):G:=h
theorem Cc(h:G:=by exact A20 h1 k1 h2 k2 h3 k3 n1 n2 hOB jO jS bT c0 c1 c2 c3 w0 w1 w2 (A20 w3 @z0 z1 @z2 @z3 pR pD pC cR cD cC h4 k4 h7 k7 h5 k5 u0 u1 (A20 u2 u3 @v0 @v1 @v2 @v3 y0 y1 y2 y3 s0 @s1 @s2 s3 @f0 @f1 @f2 @f3 @d0 (A20 @d1 @d2 @d3 pQ cQ j3 h6 k6 @hz @a5 r5 x5 @t2 r2 x2 pR pD pC cR (A4 cD cC pQ cQ))))):G:=h
theorem Cd(h:G:=by omega):G:=h
theorem Ce(h:G:=by simp):G:=h
theorem Cf(h:G:=by kernel_rfl):G:=h
theorem Cg(h:G:=by (first|rfl|(simp[hq];repeat(first|rfl|(apply And.intro)))|(simp[hq];done))):G:=h
theorem Ch(h:G:=by decide):G:=h
theorem Ci(h:G:=by rw[yAP];omega):G:=h
theorem Cj(h:G:=by decide +kernel):G:=h
theorem Ck(h:G:=by cases h):G:=h
theorem Cl(h:G:=by cases x;cases y;simpa using h):G:=h
theorem Cm(h:G:=by assumption):G:=h
theorem Cn(h:G:=by simp only[IntKind.wrap,IntKind.bits,IntKind.signed];simp;omega):G:=h
theorem Co(h:G:=by simp;omega):G:=h
theorem Cp(h:G:=by rw[yAq hi,ha]):G:=h
theorem Cq(h:G:=by have:=hi.2;simp at this;omega):G:=h
theorem Cr(h:G:=by unfold Addr.add;split<;>simp_all):G:=h
theorem Cs(h:G:=by rw[e]at v0;exact absurd v0 (yAZ _)):G:=h
theorem Ct(h:G:=by (try simp only[yAa,yAT,yAO,maxLen]);omega):G:=h
theorem Cu(h:G:=by rw[<-hhR];exact fN _ _ _):G:=h
theorem Cv(h:G:=by rw[<-hhD];exact fN _ _ _):G:=h
theorem Cw(h:G:=by rw[<-hhC];exact fN _ _ _):G:=h
theorem Cy(h:G:=by rw[<-hhD];exact rB _ _ _ _):G:=h
theorem Cz(h:G:=by rintro rfl;rw[fV (hs.bQ i hd)]at ho;cases ho):G:=h
theorem Da(h:G:=by rw[h];decide):G:=h
theorem Db(h:G:=by rw[<-hhD];exact s9 _ _ _ _):G:=h
theorem Dc(h:G:=by cases e):G:=h
theorem Dd(h:G:=by unfold dZ;simp):G:=h
theorem De(h:G:=by cases h;exact hR _ hr rfl):G:=h
theorem Df(h:G:=by simp only[maxLen];omega):G:=h
theorem Dg(h:G:=by simpa using h):G:=h
theorem Dh(h:G:=by rw[<-dH,yAd (yAU h)]):G:=h
theorem Di(h:G:=by rcases h with h|h|h|h<;>rw[h]<;>decide):G:=h
theorem Dj(h:G:=by simp only;omega):G:=h
theorem Dk(h:G:=by rw[yAe];omega):G:=h
theorem Dl(h:G:=by rw[<-hhR];exact rA _ _ _):G:=h
theorem Dm(h:G:=by rw[<-hhC];exact rA _ _ _):G:=h
theorem Dn(h:G:=by rw[yAq hir,hb]):G:=h
theorem Dp(h:G:=by unfold IntKind.wrap;simp[IntKind.bits,IntKind.signed];omega):G:=h
theorem Dq(h:G:=by rw[e]at r0;exact absurd r0 (yAZ _)):G:=h
theorem Dr(h:G:=by rw[bT,yAa,yAD];omega):G:=h
theorem Ds(h:G:=by unfold aE.add;rw[yAJ rfl]):G:=h
theorem Dt(h:G:=by rw[<-bT];exact hO.aM λid y _ hy=>bR hy):G:=h
theorem Du(h:G:=by intro fl σ n;kernel_rfl):G:=h
theorem Dv(h:G:=by rw[<-hhC];exact uQ _ _ _):G:=h
theorem Dw(h:G:=by simp at h):G:=h
theorem Dx(h:G:=by rw[yAA,yAh hil];rfl):G:=h
theorem Dy(h:G:=by rw[<-hOB];simp):G:=h
theorem Dz(h:G:=by rw[hf];decide):G:=h
theorem Ea(h:G:=by rw[h];rfl):G:=h
theorem Eb(h:G:=by rw[yAe];exact h):G:=h
theorem Ec(h:G:=by simp[e2];omega):G:=h
theorem Ed(h:G:=by rw[<-hhR];exact kY _ _ _):G:=h
theorem Ee(h:G:=by rw[<-hhD];exact kY _ _ _):G:=h
theorem Ef(h:G:=by rw[<-hhC];exact kY _ _ _):G:=h
theorem Eg(h:G:=by rw[<-hhR];exact uQ _ _ _):G:=h
theorem Eh(h:G:=by rw[yAt];omega):G:=h
theorem Ei(h:G:=by simpa using h1):G:=h
theorem Ej(h:G:=by rw[hr];rfl):G:=h
theorem Ek(h:G:=by simp[qH]):G:=h
theorem El(h:G:=by have:=(hrow hp).1;omega):G:=h
theorem En(h:G:=by rw[<-hB];simp):G:=h
theorem Ep(h:G:=by apply yCi;simp):G:=h
theorem Er(h:G:=by simp[Call.operands];exact yCc.1 hx):G:=h
theorem Es(h:G:=by simpa using hp):G:=h
theorem Et(h:G:=by intro t ht;rcases ht with h|h|h<;>rw[h]<;>decide):G:=h
theorem Eu(h:G:=by rw[<-dH,yAD];omega):G:=h
theorem Ew(h:G:=by rw[<-bT,yAa];omega):G:=h
theorem Ex(h:G:=by intro t ht;rcases ht with h|h<;>rw[h]<;>decide):G:=h
theorem Ey(h:G:=by rw[e]at gC;simp at gC):G:=h
theorem Ez(h:G:=by simpa using hl):G:=h
theorem Fa(h:G:=by have:=w2;omega):G:=h
theorem Fb(h:G:=by simpa using hx):G:=h
theorem Fc(h:G:=by simpa using ho):G:=h
theorem Fe(h:G:=by obtain⟨r,_,rfl⟩:=yAw.1 h;rfl):G:=h
theorem Ff(h:G:=by rw[yAg iA];exact hx0):G:=h
theorem Fg(h:G:=by rw[<-he];exact CJ fl):G:=h
theorem Fh(h:G:=by simpa using a):G:=h
theorem Fi(h:G:=by simpa using b):G:=h
theorem Fj(h:G:=by cases mx<;>simp_all):G:=h
theorem Fk(h:G:=by rw[<-hOB];exact hl1):G:=h
theorem Fl(h:G:=by rw[<-bT];exact jO _):G:=h
theorem Fm(h:G:=by show PD.agg (PD.mF _)=_;rw[PD.r8];simp only[yAV,yBY];rw[vO Em.stop 4 fs .any];rfl):G:=h
theorem Fo(h:G:=by cases h;rfl):G:=h
theorem Fp(h:G:=by (first|rfl|(simp[MQ,kH];repeat(first|rfl|(apply And.intro)))|(simp[MQ,kH];done))):G:=h
theorem Fq(h:G:=by (first|rfl|(simp[iK,kH];repeat(first|rfl|(apply And.intro)))|(simp[iK,kH];done))):G:=h
theorem Fs(h:G:=by (first|rfl|(simp[pE,kH];repeat(first|rfl|(apply And.intro)))|(simp[pE,kH];done))):G:=h
theorem Ft(h:G:=by rw[<-j7];simp[nV,e1,e2]):G:=h
theorem Fu(h:G:=by show PD.agg (PD.mF _)=_;rw[PD.r8];simp only[yAV,yBY];rw[vO Em.fB 3 sg .any];rfl):G:=h
theorem Fv(h:G:=by show PD.agg (PD.mF _)=_;rw[PD.r8];simp only[yAV,yBY];rw[vO i64 1 wd .any];rfl):G:=h
theorem Fw(h:G:=by simp only[eS,fL hx,hr]):G:=h
theorem Fx(h:G:=by simp[Act.eval,Act.put]):G:=h
theorem Fy(h:G:=by rw[<-hhS];exact fN _ _ _):G:=h
theorem Fz(h:G:=by rw[<-hhS];exact kY _ _ _):G:=h
theorem Ga(h:G:=by (first|rfl|(simp[jQ];repeat(first|rfl|(apply And.intro)))|(simp[jQ];done))):G:=h
theorem Gb(h:G:=by rw[yAI hz]):G:=h
theorem Gc(h:G:=by rw[e]at l8;exact n3 (yAf (yDb.1 l8))):G:=h
theorem Gd(h:G:=by have:=(a2 hp).1;omega):G:=h
theorem Ge(h:G:=by simp only[gQ,hu]):G:=h
theorem Gf(h:G:=by cases a;unfold Addr.add;split<;>rfl):G:=h
theorem Gg(h:G:=by rw[<-tT];trivial):G:=h
theorem Gi(h:G:=by simpa using hn):G:=h
theorem Gj(h:G:=by simp[Cx.put]):G:=h
theorem Gk(h:G:=by rw[e1];rfl):G:=h
theorem Gm(h:G:=by simp only[PD.strip,PD.mF,vO];rfl):G:=h
theorem Gn(h:G:=by have:=(pV hp).1;omega):G:=h
theorem Gp(h:G:=by unfold tn at h;exact_mod_cast h):G:=h
theorem Gq(h:G:=by unfold lB;omega):G:=h
theorem Gr(h:G:=by simp[ByteArray.size]):G:=h
theorem Gs(h:G:=by simp only[maxLen]at hmax;omega):G:=h
theorem Gt(h:G:=by simp[zeroValue,typeInfo,hi,hzv]):G:=h
theorem Gu(h:G:=by rw[<-hA,h];rfl):G:=h
theorem Gv(h:G:=by simp[pR,pD,pC]):G:=h
theorem Gw(h:G:=by refine⟨l.length,?_⟩;exact cL (⟨rfl,yAk _,by rw[yDR];exact hT⟩)):G:=h
theorem Gx(h:G:=by have:=hzc.1;simp at this;omega):G:=h
theorem Gy(h:G:=by simp[bI]at hb;omega):G:=h
theorem Gz(h:G:=by simp only[eS,fL hx,fL hy,hr]):G:=h
theorem He(h:G:=by simpa [eY]using h):G:=h
theorem Hf(h:G:=by rw[hlen];exact hw):G:=h
theorem Hg(h:G:=by simp[hy]):G:=h
theorem Hh(h:G:=by rw[yBI hi,ha]):G:=h
theorem Hi(h:G:=by rw[hls,yAH,hA];exact yAj yH):G:=h
theorem Hj(h:G:=by rw[u6 (hs.bQ id hd)];exact h):G:=h
theorem Hl(h:G:=by cases hx:fn.body<;>simp_all):G:=h
theorem Ho(h:G:=by rw[<-hρ,yAg hlt];exact hid):G:=h
theorem Hp(h:G:=by rw[IntKind.wrap_u64];omega):G:=h
theorem Hq(h:G:=by rw[<-j3];exact aW.set s3 _):G:=h
theorem Hr(h:G:=by simpa using hd):G:=h
theorem Hs(h:G:=by rw[e];exact hd):G:=h
theorem Ht(h:G:=by simpa using hu):G:=h
theorem Hu(h:G:=by simpa using hi):G:=h
theorem Hv(h:G:=by rw[<-yBE,hd];rfl):G:=h
theorem Hw(h:G:=by have:=hb.1;omega):G:=h
theorem Hy(h:G:=by have:=hi.1;omega):G:=h
theorem Hz(h:G:=by simpa using h3):G:=h
theorem Ia(h:G:=by rw[<-jY];exact GX _ _ _ _):G:=h
theorem Ib(h:G:=by rw[<-jY];exact GY _ _ _ _):G:=h
theorem Ic(h:G:=by rw[<-j2];exact rB _ _ _ _):G:=h
theorem Ie(h:G:=by rw[<-j2];exact s9 _ _ _ _):G:=h
theorem Ig(h:G:=by simp[hlt]):G:=h
theorem Ih(h:G:=by simp[execOp,r]):G:=h
theorem Ii(h:G:=by simpa using hk):G:=h
theorem Ij(h:G:=by rw[htk,yAH,<-yAi,hρ];rfl):G:=h
theorem Ik(h:G:=by rw[e,vT h]at vG;cases vG):G:=h
theorem Il(h:G:=by simp[PD.strip]):G:=h
theorem Im(h:G:=by show(o.aD.set _ _).length<=1000000;rw[yAD];omega):G:=h
theorem Io(h:G:=by rw[hi.size];exact qS ho):G:=h
theorem Ip(h:G:=by unfold mE;simp only[hu];cases x<;>cases y<;>rfl):G:=h
theorem Iq(h:G:=by rw[<-j2];exact fN _ _ _):G:=h
theorem Ir(h:G:=by rw[<-j2];exact kY _ _ _):G:=h
theorem Is(h:G:=by rw[<-j7];rfl):G:=h
theorem It(h:G:=by show(o.aD.map _).length<=1000000;rw[yAe];omega):G:=h
theorem Iu(h:G:=by show(o.aL.map _).length<=1000000;rw[yAe];omega):G:=h
theorem Iv(h:G:=by have:=yAR.1 hi;omega):G:=h
theorem Iw(h:G:=by rw[<-dH];exact yAj r1):G:=h
theorem Ix(h:G:=by rw[hO.len];exact hi):G:=h
theorem Iy(h:G:=by rw[hlen,hO.len];omega):G:=h
theorem Iz(h:G:=by rw[<-dH];exact yAj v1):G:=h
theorem Ja(h:G:=by rw[<-j3];exact yAj f3):G:=h
theorem Jb(h:G:=by rintro rfl;rw[fV (hs.bQ i hd)]at hm;cases hm):G:=h
theorem Jc(h:G:=by rw[hAl];exact urow):G:=h
theorem Jd(h:G:=by have:=h.len;rw[e]at this;simp at this;omega):G:=h
end
theorem tu:True:=trivial
theorem An {a b:Prop}(h:a)(k:b):a∧b:=⟨h,k⟩
theorem gn {α:Sort _}(e:α):∃x,e=x:=⟨_,rfl⟩
def yA:=@List.getElem?_eq_some_iff
def yAa:=@List.length_append
def yAb:=@Option.some.injEq
def yAc:=@Prod.mk.injEq
def yAd:=@List.getElem?_set_ne
def yAe:=@List.length_map
def yAf:=@List.eq_nil_of_length_eq_zero
def yAg:=@List.getElem?_append_left
def yAh:=@List.getElem?_eq_getElem
def yAi:=@List.append_assoc
def yAj:=@List.getElem?_set_self
def yAk:=@Nat.le_refl
def yAl:=@List.append_nil
def yAm:=@List.getElem_mem
def yAn:=@List.all_eq_true
def yAo:=@List.getElem?_map
def yAp:=@Nat.zero_add
def yAq:=@List.drop_eq_getElem_cons
def yAr:=@Bool.and_eq_true
def yAs:=@List.drop_eq_nil_of_le
def yAt:=@List.length_take
def yAu:=@decide_eq_decide
def yAv:=@List.getElem?_take
def yAw:=@List.mem_map
def yAx:=@Bool.false_eq_true
def yAy:=@List.mem_of_mem_take
def yAz:=@List.take_of_length_le
def yAA:=@List.getD_eq_getElem?_getD
def yAB:=@List.getElem?_concat_length
def yAC:=@Option.map_some
def yAD:=@List.length_set
def yAE:=@List.mem_of_getElem?
def yAF:=@Nat.zero_le
def yAG:=@List.map_congr_left
def yAH:=@List.map_append
def yAI:=@if_neg
def yAJ:=@if_pos
def yAK:=@if_true
def yAL:=@congrArg
def yAM:=@Go.run_underlying
def yAN:=@if_false
def yAO:=@List.length_nil
def yAP:=@Go.IntKind.wrap_i64
def yAQ:=@Nat.le_trans
def yAR:=@List.mem_range
def yAS:=@Option.some.inj
def yAT:=@List.length_cons
def yAU:=@Ne.symm
def yAV:=@List.map_cons
def yAW:=@List.nil_append
def yAX:=@decide_eq_true
def yAY:=@Bool.false_and
def yAZ:=@Nat.not_lt_zero
def yBa:=@List.length_drop
def yBb:=@Go.Sem.run_bind
def yBc:=@decide_eq_false
def yBd:=@List.mem_of_mem_drop
def yBe:=@List.mem_cons_self
def yBf:=@Array.length_toList
def yBg:=@Go.Result.andThen_ok
def yBh:=@List.getElem?_drop
def yBi:=@List.getElem?_cons_zero
def yBj:=@Int.toNat_natCast
def yBk:=@Nat.add_zero
def yBl:=@List.mem_cons
def yBm:=@List.set_cons_zero
def yBn:=@and_true
def yBo:=@Go.Sem.run_pure
def yBp:=@List.getElem_map
def yBq:=@Bool.true_and
def yBr:=@List.mem_append
def yBs:=@List.map_map
def yBt:=@List.cons_append
def yBu:=@List.set_cons_succ
def yBv:=@Bool.or_eq_true
def yBw:=@Bool.not_eq_true'
def yBx:=@List.flatMap_cons
def yBy:=@List.getElem?_eq_none
def yBz:=@Nat.add_mul
def yBA:=@and_self
def yBB:=@List.getElem?_cons_succ
def yBC:=@Nat.mod_lt
def yBD:=@List.flatten_cons
def yBE:=@List.drop_drop
def yBF:=@Go.Calls.mono
def yBG:=@Go.Addr.mk.injEq
def yBH:=@Nat.mul_le_mul_right
def yBI:=@List.take_succ_eq_append_getElem
def yBJ:=@List.getElem?_append_right
def yBK:=@not_true_eq_false
def yBL:=@Go.Value.slice.injEq
def yBM:=@Go.setRow_other
def yBN:=@List.not_mem_nil
def yBO:=@or_false
def yBP:=@Bool.not_true
def yBQ:=@Nat.le_of_lt
def yBR:=@Nat.min_eq_left
def yBS:=@Nat.lt_of_lt_of_le
def yBT:=@List.getElem_of_mem
def yBU:=@Nat.succ_mul
def yBV:=@Go.setRow_heap
def yBW:=@Nat.add_assoc
def yBX:=@Int.tmod_eq_emod_of_nonneg
def yBY:=@List.map_nil
def yBZ:=@Bool.false_or
def yC:=@Go.heap_alloc_new
def yCa:=@decide_eq_true_eq
def yCb:=@List.drop_zero
def yCc:=@Array.mem_toList_iff
def yCd:=@List.all_cons
def yCe:=@or_true
def yCf:=@beq_iff_eq
def yCg:=@Nat.lt_or_ge
def yCh:=@Bool.and_self
def yCi:=@Array.ext'
def yCj:=@true_and
def yCk:=@Nat.sub_self
def yCl:=@List.length_pos_iff
def yCm:=@List.any_eq_true
def yCn:=@List.mem_cons_of_mem
def yCo:=@List.ext_getElem?
def yCp:=@List.take_take
def yCq:=@List.size_toArray
def yCr:=@List.take_left
def yCs:=@Nat.le_succ
def yCt:=@List.mem_singleton
def yCu:=@Bool.not_false
def yCv:=@List.cons.injEq
def yCw:=@Bool.not_eq_true
def yCx:=@Array.getElem?_eq_getElem
def yCy:=@Go.run_sliceBound
def yCz:=@not_false_eq_true
def yCA:=@true_or
def yCB:=@List.nodup_append
def yCC:=@List.head?_drop
def yCD:=@List.drop_length
def yCE:=@Go.CallsIn.mono
def yCF:=@Prod.ext
def yCG:=@Nat.lt_irrefl
def yCH:=@Array.getElem?_toList
def yCI:=@Go.World.cell?_of_block
def yCJ:=@Option.bind_some
def yCK:=@Go.Value.pointer.injEq
def yCL:=@List.take_append_of_le_length
def yCM:=@Go.World.putObj_heap_other
def yCN:=@List.mem_or_eq_of_mem_set
def yCO:=@List.drop_of_length_le
def yCP:=@Nat.add_sub_cancel_left
def yCQ:=@List.map_id
def yCR:=@Nat.zero_mul
def yCS:=@List.map_set
def yCT:=@List.mem_flatMap
def yCU:=@List.getElem_set_self
def yCV:=@Nat.mul_le_mul
def yCW:=@List.map_take
def yCX:=@Int.tdiv_eq_ediv_of_nonneg
def yCY:=@Classical.byContradiction
def yCZ:=@List.getElem?_set
def yDa:=@Array.getD_eq_getD_getElem?
def yDb:=@Nat.le_zero
def yDc:=@List.length_singleton
def yDd:=@Nat.mul_pos
def yDe:=@Go.run_storeCells_at
def yDf:=@List.getElem?_append
def yDg:=@Nat.mul_one
def yDh:=@List.drop_take
def yDi:=@List.getElem?_of_mem
def yDj:=@Classical.not_not
def yDk:=@List.range_succ
def yDl:=@List.take_succ_cons
def yDm:=@Bool.and_true
def yDn:=@Option.getD_some
def yDo:=@Bool.true_or
def yDp:=@List.foldl_cons
def yDq:=@Nat.sub_zero
def yDr:=@List.mem_filterMap
def yDs:=@List.range'_succ
def yDt:=@Array.toList_map
def yDu:=@Array.toList_range
def yDv:=@Go.grownCap_ge
def yDw:=@Go.heap_alloc_old
def yDx:=@Go.size_zeroCells
def yDy:=@Nat.pos_of_ne_zero
def yDz:=@Array.getElem?_modify
def yDA:=@Int.emod_nonneg
def yDB:=@Int.emod_lt_of_pos
def yDC:=@List.any_eq_false
def yDD:=@Array.mem_of_getElem?
def yDE:=@Array.getElem?_eq_some_iff
def yDF:=@List.all_append
def yDG:=@Bool.or_false
def yDH:=@Option.map_none
def yDI:=@Nat.succ_ne_self
def yDJ:=@Sum.inl.injEq
def yDK:=@Go.grownCap_le_maxLen
def yDL:=@Array.toList_append
def yDM:=@Array.size_append
def yDN:=@List.drop_append
def yDO:=@List.getElem_set_ne
def yDP:=@Nat.zero_lt_succ
def yDQ:=@List.set_append_right
def yDR:=@List.take_length
def yDS:=@List.any_cons
def yDT:=@Array.size_replicate
def yDU:=@Go.run_callFunc_extern
def yDV:=@Bool.or_assoc
def yDW:=@Nat.add_sub_cancel
def yDX:=@decide_eq_false_iff_not
def yDY:=@Bool.or_eq_false_iff
def yDZ:=@BitVec.eq_of_toNat_eq
def yE:=@List.set_append_left
def yEa:=@Array.toList_setIfInBounds
def yEb:=@Array.getElem?_replicate
def yEc:=@Nat.eq_zero_or_pos
def yEd:=@List.flatMap_append
def yEe:=@Nat.eq_of_mul_eq_mul_right
def yEf:=@List.getElem?_eq_none_iff
def yEg:=@Array.eq_empty_of_size_eq_zero
def yEh:=@List.drop_succ_cons
def yEi:=@List.drop_length_add_append
def yEj:=@List.getElem_append_right
def yEk:=@List.drop_append_of_le_length
def yEl:=@Array.getElem?_append
def yEm:=@List.getD_cons_succ
def yEn:=@List.set_eq_take_append_cons_drop
theorem A2 {A B:Prop}(a:A)(b:B):A∧B:=⟨a,b⟩
theorem A3 {A B C:Prop}(a:A)(b:B)(c:C):A∧B∧C:=⟨a,b,c⟩
theorem A4 {A B C D:Prop}(a:A)(b:B)(c:C)(d:D):A∧B∧C∧D:=⟨a,b,c,d⟩
theorem A5 {A B C D E:Prop}(a:A)(b:B)(c:C)(d:D)(e:E):A∧B∧C∧D∧E:=⟨a,b,c,d,e⟩
theorem A6 {A B C D E F:Prop}(a:A)(b:B)(c:C)(d:D)(e:E)(f:F):A∧B∧C∧D∧E∧F:=⟨a,b,c,d,e,f⟩
theorem A7 {A B C D E F G:Prop}(a:A)(b:B)(c:C)(d:D)(e:E)(f:F)(g:G):A∧B∧C∧D∧E∧F∧G:=⟨a,b,c,d,e,f,g⟩
theorem A8 {A B C D E F G H:Prop}(a:A)(b:B)(c:C)(d:D)(e:E)(f:F)(g:G)(h:H):A∧B∧C∧D∧E∧F∧G∧H:=⟨a,b,c,d,e,f,g,h⟩
theorem A9 {A B C D E F G H I:Prop}(a:A)(b:B)(c:C)(d:D)(e:E)(f:F)(g:G)(h:H)(i:I):A∧B∧C∧D∧E∧F∧G∧H∧I:=⟨a,b,c,d,e,f,g,h,i⟩
theorem A10 {A B C D E F G H I J:Prop}(a:A)(b:B)(c:C)(d:D)(e:E)(f:F)(g:G)(h:H)(i:I)(j:J):A∧B∧C∧D∧E∧F∧G∧H∧I∧J:=⟨a,b,c,d,e,f,g,h,i,j⟩
theorem A11 {A B C D E F G H I J K:Prop}(a:A)(b:B)(c:C)(d:D)(e:E)(f:F)(g:G)(h:H)(i:I)(j:J)(k:K):A∧B∧C∧D∧E∧F∧G∧H∧I∧J∧K:=⟨a,b,c,d,e,f,g,h,i,j,k⟩
theorem A12 {A B C D E F G H I J K L:Prop}(a:A)(b:B)(c:C)(d:D)(e:E)(f:F)(g:G)(h:H)(i:I)(j:J)(k:K)(l:L):A∧B∧C∧D∧E∧F∧G∧H∧I∧J∧K∧L:=⟨a,b,c,d,e,f,g,h,i,j,k,l⟩
theorem A13 {A B C D E F G H I J K L M:Prop}(a:A)(b:B)(c:C)(d:D)(e:E)(f:F)(g:G)(h:H)(i:I)(j:J)(k:K)(l:L)(m:M):A∧B∧C∧D∧E∧F∧G∧H∧I∧J∧K∧L∧M:=⟨a,b,c,d,e,f,g,h,i,j,k,l,m⟩
theorem A14 {A B C D E F G H I J K L M N:Prop}(a:A)(b:B)(c:C)(d:D)(e:E)(f:F)(g:G)(h:H)(i:I)(j:J)(k:K)(l:L)(m:M)(n:N):A∧B∧C∧D∧E∧F∧G∧H∧I∧J∧K∧L∧M∧N:=⟨a,b,c,d,e,f,g,h,i,j,k,l,m,n⟩
theorem A15 {A B C D E F G H I J K L M N O:Prop}(a:A)(b:B)(c:C)(d:D)(e:E)(f:F)(g:G)(h:H)(i:I)(j:J)(k:K)(l:L)(m:M)(n:N)(o:O):A∧B∧C∧D∧E∧F∧G∧H∧I∧J∧K∧L∧M∧N∧O:=⟨a,b,c,d,e,f,g,h,i,j,k,l,m,n,o⟩
theorem A16 {A B C D E F G H I J K L M N O P:Prop}(a:A)(b:B)(c:C)(d:D)(e:E)(f:F)(g:G)(h:H)(i:I)(j:J)(k:K)(l:L)(m:M)(n:N)(o:O)(p:P):A∧B∧C∧D∧E∧F∧G∧H∧I∧J∧K∧L∧M∧N∧O∧P:=⟨a,b,c,d,e,f,g,h,i,j,k,l,m,n,o,p⟩
theorem A17 {A B C D E F G H I J K L M N O P Q:Prop}(a:A)(b:B)(c:C)(d:D)(e:E)(f:F)(g:G)(h:H)(i:I)(j:J)(k:K)(l:L)(m:M)(n:N)(o:O)(p:P)(q:Q):A∧B∧C∧D∧E∧F∧G∧H∧I∧J∧K∧L∧M∧N∧O∧P∧Q:=⟨a,b,c,d,e,f,g,h,i,j,k,l,m,n,o,p,q⟩
theorem A18 {A B C D E F G H I J K L M N O P Q R:Prop}(a:A)(b:B)(c:C)(d:D)(e:E)(f:F)(g:G)(h:H)(i:I)(j:J)(k:K)(l:L)(m:M)(n:N)(o:O)(p:P)(q:Q)(r:R):A∧B∧C∧D∧E∧F∧G∧H∧I∧J∧K∧L∧M∧N∧O∧P∧Q∧R:=⟨a,b,c,d,e,f,g,h,i,j,k,l,m,n,o,p,q,r⟩
theorem A19 {A B C D E F G H I J K L M N O P Q R S:Prop}(a:A)(b:B)(c:C)(d:D)(e:E)(f:F)(g:G)(h:H)(i:I)(j:J)(k:K)(l:L)(m:M)(n:N)(o:O)(p:P)(q:Q)(r:R)(s:S):A∧B∧C∧D∧E∧F∧G∧H∧I∧J∧K∧L∧M∧N∧O∧P∧Q∧R∧S:=⟨a,b,c,d,e,f,g,h,i,j,k,l,m,n,o,p,q,r,s⟩
theorem A20 {A B C D E F G H I J K L M N O P Q R S T:Prop}(a:A)(b:B)(c:C)(d:D)(e:E)(f:F)(g:G)(h:H)(i:I)(j:J)(k:K)(l:L)(m:M)(n:N)(o:O)(p:P)(q:Q)(r:R)(s:S)(t:T):A∧B∧C∧D∧E∧F∧G∧H∧I∧J∧K∧L∧M∧N∧O∧P∧Q∧R∧S∧T:=⟨a,b,c,d,e,f,g,h,i,j,k,l,m,n,o,p,q,r,s,t⟩
def yX:Nat->Option (IntKind×List Int):=λg=>if g=0 then some (.u64,[1,10,100,1000,10000,100000,1000000,10000000,100000000,1000000000,10000000000,100000000000,1000000000000,10000000000000,100000000000000,1000000000000000,10000000000000000,100000000000000000,1000000000000000000,10000000000000000000])else if g=2 then some (.u8,[0,1,28,2,29,14,24,3,30,22,20,15,25,17,4,8,31,27,13,23,21,19,16,7,26,12,18,6,11,5,10,9])else if g=3 then some (.u8,[0,1,56,2,57,49,28,3,61,58,42,50,38,29,17,4,62,47,59,36,45,43,51,22,53,39,33,30,24,18,12,5,63,55,48,27,60,41,37,16,46,35,44,21,52,32,23,11,54,26,40,15,34,20,31,10,25,14,19,9,13,8,7,6])else none
def G7:Nat->Option IntKind:=λg=>if g=1 then some .i64 else none
@[simp] def ON:Nat->Bool:=λt=>decide (t=180)
@[simp] def E8:Nat->Nat->Bool:=λs d=>decide (s=9)&&decide (d=97)||decide (s=97)&&decide (d=9)
@[simp] def T5:Nat->Bool:=λt=>decide (t=97)||decide (t=240)
@[simp] def aJn:Nat->Bool:=λt=>decide (t=31)||decide (t=32)||decide (t=33)||decide (t=51)||decide (t=54)||decide (t=90)
@[simp] def aJo:Nat->Nat->Bool:=λt n=>decide (n=153)||decide (n=158)||(decide (t=33)&&decide (n=275))
@[simp] def iM(t n:Nat):Bool:=aJn t&&!aJo t n
section
open Go.RowKit
inductive Tok where
 |any
 |full
 |nil
 |j4
 |kW
 |own (id:Nat)
inductive PD where
 |bool (b:Bool)
 |int (k:IntKind) (n:Int)
 |str (s:List UInt8)
 |agg (cs:List PD)
 |slice (size:Nat) (xs:List PD) (tok:Tok)
 |ptr (id off:Nat)
 |fM (cs:List PD) (off:Nat)
 |iN
 |func (f:Nat) (cap:List PD)
 |kX (f:Nat) (first:List PD)
 |yield (id:Nat)
 |jU
 |gR (v:Value)
 |typed (t:TypeId) (cs:List PD)
 |eD (id off n size:Nat)
 |aP (id ver off n size:Nat)
 |dM (id ver off:Nat)
 |gG (id:Nat)
 |iface (t:TypeId) (p:PD)
 |aH (vs:List PD)
instance:Inhabited PD:=⟨.aH []⟩
def PD.cells:PD->List PD
 |.agg cs=>cs
 |.typed _ cs=>cs
 |p=>[p]
inductive HL where
 |ready
 |busy
 |done (jump:Code)
inductive aA where
 |none
 |box (p:PD)
 |own (e:TypeId) (size n:Nat)
 |row (e:TypeId) (size ver:Nat) (cs:List PD)
 |map (es:List (PD×PD))
 |mark
 |loop (st:HL) (fr:List PD) (ps:List Tmp) (assign body:Code)
abbrev Je:=Nat->List PD->List aA->Option (PD×List aA)
abbrev Jf:=Nat->Nat->List (List PD)
abbrev Jg:=Nat->List (List PD)
abbrev Jh:=List (List PD)
abbrev Jj:=List aA
abbrev Jk:=List PD
abbrev Jl:=List UInt8
abbrev Jm:=List Value
abbrev Jn:=Array Value
abbrev Jo:=Array Oper
def HL.fits(r:Loop):HL->Prop
 |.ready=>r.state=.ready/\r.pending=none
 |.busy=>r.state=.busy
 |.done j=>r.state=.done/\r.pending=some j
def mG:Option aA->Prop
 |some (.own _ _ _)=>False
 |some (.row _ _ _ _)=>False
 |_=>True
def bI:Value->Option Nat
 |.pointer (some a)=>some a.block
 |.slice (some a) _ _=>some a.block
 |.map r=>r
 |_=>none
def aA.aJl(v:Value)(a:Addr):aA->Prop
 |.none=>True
 |.box _=>∀b,bI v=some b->a.block≠b
 |.own _ size n=>∀b,bI v=some b->a.block=b->a.off<n*size
 |.row _ _ _ _=>∀b,bI v=some b->a.block≠b
 |.map _=>True
 |.mark=>True
 |.loop _ _ _ _ _=>True
structure Cx where
 w:World
 ρ:Nat->Value
 σ:Jj
 D:Nat->Prop
 X:Addr->Prop
def Cx.av(c:Cx)(a:Addr):Prop:=c.X a/\∀id o,c.D id->c.σ[id]?=some o->o.aJl (c.ρ id) a
def sH(c:Cx)(size n cap:Nat)(v:Value):Tok->Prop
 |.any=>True
 |.full=>n=cap
 |.nil=>v=.slice none 0 0/\n=0/\cap=0
 |.j4=>∃k m,v=.slice none k m
 |.kW=>∃a k m,v=.slice (some a) k m
 |.own id=>c.D id/\∃e m,c.σ[id]?=some (.own e size m)/\n<=m/\(n=m->c.ρ id=v)
def DE(c:Cx)(id ver:Nat)(Q:Nat->Value->Prop):Prop:=c.D id/\∀e sz gO cs,c.σ[id]?=some (.row e sz gO cs)->ver<=gO/\(ver=gO->Q sz (c.ρ id))
def US:Value->Bool
 |.nilIface=>true
 |.map none=>true
 |.chan none=>true
 |.float _ _=>true
 |_=>false
inductive VR (c:Cx):Value->PD->Prop where
 |bool (b:Bool):VR c (.bool b) (.bool b)
 |int (k:IntKind) (n:Int):VR c (.int k n) (.int k n)
 |str (s:List UInt8):VR c (.string ⟨s.toArray⟩) (.str s)
 |agg (cs:List Value) (ds:List PD):cs.length=ds.length->(∀v∈cs,v.oneCell'=true) ->
   (∀(i:Nat) (v:Value) (d:PD),cs[i]?=some v->ds[i]?=some d->VR c v d)->VR c (.agg cs.toArray) (.agg ds)
 |slice (A:Option Addr) (n cap size:Nat) (xs:List PD) (tok:Tok) (fl:List Value) :
   n=xs.length->n<=cap->cap<=maxLen->(∀x∈xs,x.cells.length=size)->fl.length=n*size->(∀v∈fl,v.oneCell'=true) ->
   (∀(j:Nat) (v:Value),fl[j]?=some v->∃ad,A=some ad/\c.w.cell? (ad.add j)=some v/\c.av (ad.add j)) ->
   (∀(j:Nat) (v:Value) (d:PD),fl[j]?=some v->(xs.flatMap PD.cells)[j]?=some d->VR c v d) ->
   sH c size n cap (.slice A n cap) tok->VR c (.slice A n cap) (.slice size xs tok)
 |ptr (id off b:Nat):c.D id->(∃p,c.σ[id]?=some (.box p))->c.ρ id=.pointer (some ⟨b,0,none⟩)->VR c (.pointer (some ⟨b,off,none⟩)) (.ptr id off)
 |eD (id off n cap size b:Nat):c.D id->(∃p,c.σ[id]?=some (.box p))->c.ρ id=.pointer (some ⟨b,0,none⟩)->n<=cap->cap<=maxLen->VR c (.slice (some ⟨b,off,none⟩) n cap) (.eD id off n size)
 |aP (id ver off n cap size b:Nat):DE c id ver (λsz r=>sz=size/\∃C,r=.slice (some ⟨b,0,none⟩) 0 C/\off+cap*size=C*size)->n<=cap->cap<=maxLen ->
   VR c (.slice (some ⟨b,off,none⟩) n cap) (.aP id ver off n size)
 |dM (id ver off b:Nat):DE c id ver (λ_ r=>∃C,r=.slice (some ⟨b,0,none⟩) 0 C)->VR c (.pointer (some ⟨b,off,none⟩)) (.dM id ver off)
 |gG (id b:Nat):c.D id->mG c.σ[id]?->c.ρ id=.map (some b)->VR c (.map (some b)) (.gG id)
 |iface (t:TypeId) (v:Value) (p:PD):VR c v p->VR c (.iface t v) (.iface t p)
 |fM (ad:Addr) (fl:List Value) (ds:List PD) (off:Nat):fl.length=ds.length->(∀v∈fl,v.oneCell'=true) ->
   (∀(j:Nat) (v:Value),fl[j]?=some v->c.w.cell? (ad.add j)=some v/\c.av (ad.add j)) ->
   (∀(j:Nat) (v:Value) (d:PD),fl[j]?=some v->ds[j]?=some d->VR c v d)->VR c (.pointer (some (ad.add off))) (.fM ds off)
 |iN:VR c (.pointer none) .iN
 |func (f:Nat) (cs:List Value) (ds:List PD):cs.length=ds.length ->
   (∀(i:Nat) (v:Value) (d:PD),cs[i]?=some v->ds[i]?=some d->VR c v d)->VR c (.func (.func f) #[] cs.toArray) (.func f ds)
 |kX (f:Nat) (cs:List Value) (ds:List PD):cs.length=ds.length ->
   (∀(i:Nat) (v:Value) (d:PD),cs[i]?=some v->ds[i]?=some d->VR c v d)->VR c (.func (.func f) cs.toArray #[]) (.kX f ds)
 |jU:VR c .nilFunc .jU
 |gR (v:Value):US v=true->VR c v (.gR v)
 |yield (id l:Nat):c.D id->mG c.σ[id]?->c.ρ id=.pointer (some ⟨l,0,none⟩)->VR c (.func (.yield l) #[] #[]) (.yield id)
 |aH (cs:List Value) (ds:List PD):cs.length=ds.length ->
   (∀(i:Nat) (v:Value) (d:PD),cs[i]?=some v->ds[i]?=some d->VR c v d)->VR c (.tuple cs.toArray) (.aH ds)
def aZ(c:Cx)(cs:List Value)(ds:List PD):Prop:=cs.length=ds.length/\∀(i:Nat) (v:Value) (d:PD),cs[i]?=some v->ds[i]?=some d->VR c v d
def AO(g:Nat):Option (List PD):=match yX g with
 |some (k,xs)=>some (xs.map (PD.int k))
 |none=>none
def PK(c:Cx):Prop:=∀g ds,AO g=some ds->VR c (.pointer (some ⟨g,0,none⟩)) (.fM ds 0)
def aAO(g:Nat)(cs:Array Value):Prop:=(∀k zs,yX g=some (k,zs)->cs=(zs.map (Value.int k)).toArray)/\∀k,G7 g=some k->∃m,cs=#[.int k m]
def aAP(g:Nat):Bool:=(yX g).isSome||(G7 g).isSome
def Gh(c:Cx):Prop:=∀g,aAP g=true->(∃cs T fz,c.w.heap[g]?=some (.cells cs T fz)/\aAO g cs)/\∀id,c.D id->bI (c.ρ id)≠some g
def Gl(c:Cx):Prop:=PK c/\Gh c
structure Sr (c:Cx):Prop where
 box:∀id p,c.D id->c.σ[id]?=some (.box p)->∃b cs T,c.ρ id=.pointer (some ⟨b,0,none⟩)/\c.w.heap[b]?=some (.cells cs T (0,0)) /\
  aZ c cs.toList p.cells/\(∀v∈cs.toList,v.oneCell'=true)/\∀t ds,p=.typed t ds->T=t
 own:∀id e size n,c.D id->c.σ[id]?=some (.own e size n)->∃xs,c.w.ownsRowF 0 e size (c.ρ id) n xs
 row:∀id e size ver ds,c.D id->c.σ[id]?=some (.row e size ver ds)->∃b C cur,c.ρ id=.slice (some ⟨b,0,none⟩) 0 C/\c.w.heap[b]?=some (.cells cur e (0,0))/\cur.size=C*size/\C<=maxLen/\0<size /\
  ds.length<=cur.size/\aZ c (cur.toList.take ds.length) ds/\∀v∈cur.toList,v.oneCell'=true
 map:∀id es,c.D id->c.σ[id]?=some (.map es)->∃b ents clock,c.ρ id=.map (some b)/\c.w.heap[b]?=some (.map ents clock)/\aZ c (ents.toList.map MapEntry.key) (es.map Prod.fst)/\aZ c (ents.toList.map MapEntry.val) (es.map Prod.snd)
 mark:∀id,c.D id->c.σ[id]?=some .mark->∃b,c.ρ id=.pointer (some ⟨b,0,none⟩)/\c.w.heap[b]?=some (.deferred (some []))
 loop:∀id st fr ps assign body,c.D id->c.σ[id]?=some (.loop st fr ps assign body)->∃b r,c.ρ id=.pointer (some ⟨b,0,none⟩)/\c.w.heap[b]?=some (.loop r) /\
  r.params=ps.toArray/\r.assign=assign/\r.body=body/\aZ c r.tmps.toList fr/\st.fits r
 inj:∀id id' b,c.D id->c.D id'->id≠id'->bI (c.ρ id)=some b->bI (c.ρ id')≠some b
 lt:∀id b,c.D id->bI (c.ρ id)=some b->b<c.w.heap.size
 bQ:∀id,c.D id->id<c.σ.length
 fresh:∀a:Addr,c.w.heap.size<=a.block->c.X a
 kM:Gl c
structure Nx (fl:Nat) (c c':Cx):Prop where
 X:c'.X=c.X
 os:c'.w.os=c.w.os
 tape:c'.w.tape=c.w.tape
 output:c'.w.output=c.w.output
 size:c.w.heap.size<=c'.w.heap.size
 len:c.σ.length<=c'.σ.length
 cell:∀a v,c.av a->c.w.cell? a=some v->c'.av a/\c'.w.cell? a=some v
 bQ:∀id,c.D id->c'.D id
 new:∀id,c'.D id->c.D id\/c.σ.length<=id
 tU:∀id p,c.D id->c.σ[id]?=some (.box p)->c'.ρ id=c.ρ id/\∃p',c'.σ[id]?=some (.box p')
 oF:∀id,c.D id->mG c.σ[id]?->c'.ρ id=c.ρ id/\mG c'.σ[id]?
 uZ:∀id e s n,c.D id->c.σ[id]?=some (.own e s n)->∃n',c'.σ[id]?=some (.own e s n')/\n<=n'/\(n'=n->c'.ρ id=c.ρ id)
 u5:∀id e s v cs,c.D id->c'.σ[id]?=some (.row e s v cs)->∃v0 cs0,c.σ[id]?=some (.row e s v0 cs0)/\v0<=v/\(v0=v->c'.ρ id=c.ρ id)
 back:∀id b,c'.D id->bI (c'.ρ id)=some b->b<c.w.heap.size->c.D id/\bI (c.ρ id)=some b
 frame:∀k,k<c.w.heap.size->(∀id,c.D id->fl<=id->bI (c.ρ id)≠some k)->c'.w.heap[k]?=c.w.heap[k]?
 ro:∀id,id<fl->id<c.σ.length->c'.σ[id]?=c.σ[id]?
 hole:∀id,id<c.σ.length->¬c.D id->c'.σ[id]?=c.σ[id]?
theorem Nx.refl(fl:Nat)(c:Cx):Nx fl c c:=
 ⟨rfl,rfl,rfl,rfl,yAk _,yAk _,λ_ _ h h'=>⟨h,h'⟩,λ_ h=>h,λ_ h=>.inl h,λ_ p _ h=>⟨rfl,p,h⟩,λ_ _ h=>⟨rfl,h⟩,
  λ_ _ _ n _ h=>⟨n,h,yAk _,λ_=>rfl⟩,λ_ _ _ v cs _ h=>⟨v,cs,h,yAk _,λ_=>rfl⟩,λ_ _ h h' _=>⟨h,h'⟩,λ_ _ _=>rfl,λ_ _ _=>rfl,λ_ _ _=>rfl⟩
theorem Nx.trans{fl:Nat}{a b c:Cx}(h:Nx fl a b)(k:Nx fl b c):Nx fl a c where
 X:=k.X.trans h.X
 os:=k.os.trans h.os
 tape:=k.tape.trans h.tape
 output:=k.output.trans h.output
 size:=yAQ h.size k.size
 len:=yAQ h.len k.len
 cell:=λx v h1 h2=>let ⟨q1,q2⟩:=h.cell x v h1 h2;k.cell x v q1 q2
 bQ:=λid hd=>k.bQ id (h.bQ id hd)
 new:=λid hd=>(k.new id hd).elim (λq=>h.new id q) (λq=>.inr (yAQ h.len q))
 tU:=λid p hd hs=>by
  obtain⟨e1,p',hs'⟩:=h.tU id p hd hs;obtain⟨e2,p'',UT⟩:=k.tU id p' (h.bQ id hd) hs';exact⟨e2.trans e1,p'',UT⟩
 oF:=λid hd hn=>by
  obtain⟨e1,hn'⟩:=h.oF id hd hn;obtain⟨e2,aJm⟩:=k.oF id (h.bQ id hd) hn';exact⟨e2.trans e1,aJm⟩
 uZ:=λid e s n hd hs=>by
  obtain⟨n',hs',hle,he⟩:=h.uZ id e s n hd hs;obtain⟨n'',UT,hle',he'⟩:=k.uZ id e s n' (h.bQ id hd) hs';exact⟨n'',UT,yAQ hle hle',λheq=>(he' Cd).trans (he Cd)⟩
 u5:=λid e s v cs hd hs=>by
  obtain⟨v1,DD,h1,h2,h3⟩:=k.u5 id e s v cs (h.bQ id hd) hs;obtain⟨v2,HZ,g1,g2,g3⟩:=h.u5 id e s v1 DD hd h1;exact⟨v2,HZ,g1,yAQ g2 h2,λheq=>(h3 Cd).trans (g3 Cd)⟩
 back:=λid bk hd hb hlt=>by
  obtain⟨q1,q2⟩:=k.back id bk hd hb (yBS hlt h.size);exact h.back id bk q1 q2 hlt
 frame:=λn hn hx=>by
  rw[k.frame n (yBS hn h.size) (λid hd hfl hb=>?_)]
  .exact h.frame n hn hx
  .obtain⟨q1,q2⟩:=h.back id n hd hb hn;exact hx id q1 hfl q2
 ro:=λid hlt hl=>(k.ro id hlt (yBS hl h.len)).trans (h.ro id hlt hl)
 hole:=λid hl hd=>(k.hole id (yBS hl h.len) (λhb=>(h.new id hb).elim hd (λq=>Cd))).trans (h.hole id hl hd)
theorem Nx.weaken{fl fA:Nat}{a b:Cx}(h:Nx fl a b)(hle:fA<=fl):Nx fA a b:=
 { h with frame:=λk hk hx=>h.frame k hk (λid hd hf=>hx id hd (yAQ hle hf)),ro:=λid hlt hl=>h.ro id (yBS hlt hle) hl }
structure Nv (c c':Cx):Prop where
 cell:∀a v,c.av a->c.w.cell? a=some v->c'.av a/\c'.w.cell? a=some v
 bQ:∀id,c.D id->c'.D id
 tU:∀id p,c.D id->c.σ[id]?=some (.box p)->c'.ρ id=c.ρ id/\∃p',c'.σ[id]?=some (.box p')
 oF:∀id,c.D id->mG c.σ[id]?->c'.ρ id=c.ρ id/\mG c'.σ[id]?
 uZ:∀id e s n,c.D id->c.σ[id]?=some (.own e s n)->∃n',c'.σ[id]?=some (.own e s n')/\n<=n'/\(n'=n->c'.ρ id=c.ρ id)
 u5:∀id e s v cs,c.D id->c'.σ[id]?=some (.row e s v cs)->∃v0 cs0,c.σ[id]?=some (.row e s v0 cs0)/\v0<=v/\(v0=v->c'.ρ id=c.ρ id)
theorem Nx.UC{fl:Nat}{c c':Cx}(h:Nx fl c c'):Nv c c':=⟨h.cell,h.bQ,h.tU,h.oF,h.uZ,h.u5⟩
theorem DE.oW{c c':Cx}(h:Nv c c'){id ver:Nat}{Q:Nat->Value->Prop}(hp:DE c id ver Q):DE c' id ver Q:=by
 refine⟨h.bQ id hp.1,λe sz v cs hs=>?_⟩;obtain⟨v0,cs0,h1,h2,h3⟩:=h.u5 id e sz v cs hp.1 hs;obtain⟨h4,h5⟩:=hp.2 e sz v0 cs0 h1;refine⟨yAQ h4 h2,λheq=>?_⟩;rw[h3 Cd];exact h5 Cd
theorem sH.oW{c c':Cx}(h:Nv c c'){size n cap:Nat}{v:Value}{t:Tok}(ht:sH c size n cap v t):sH c' size n cap v t:=by
 cases t with
 |any=>trivial
 |full=>exact ht
 |nil=>exact ht
 |j4=>exact ht
 |kW=>exact ht
 |own id=>
  obtain⟨hd,e,m,hs,hle,he⟩:=ht;obtain⟨m',hs',hle',he'⟩:=h.uZ id e size m hd hs;exact⟨h.bQ id hd,e,m',hs',yAQ hle hle',λheq=>(he' Cd).trans (he Cd)⟩
theorem VR.oW{c c':Cx}(h:Nv c c'){v:Value}{p:PD}(hv:VR c v p):VR c' v p:=by
 induction hv with
 |bool b=>exact .bool b
 |int k n=>exact .int k n
 |str s=>exact .str s
 |agg cs ds hl h1 _ ih=>exact .agg cs ds hl h1 ih
 |slice A n cap size xs tok fA hn hc hm hx hf h1 hcell _ ht ih=>
  refine .slice A n cap size xs tok fA hn hc hm hx hf h1 (λj v hj=>?_) ih (ht.oW h);obtain⟨ad,e,h2,h3⟩:=hcell j v hj;obtain⟨q1,q2⟩:=h.cell _ _ h3 h2;exact⟨ad,e,q2,q1⟩
 |ptr id off b hd hs hr=>
  obtain⟨p,hs⟩:=hs;obtain⟨e,p',hs'⟩:=h.tU id p hd hs;exact .ptr id off b (h.bQ id hd) ⟨p',hs'⟩ (e.trans hr)
 |eD id off n cap size b hd hs hr h1 h2=>
  obtain⟨p,hs⟩:=hs;obtain⟨e,p',hs'⟩:=h.tU id p hd hs;exact .eD id off n cap size b (h.bQ id hd) ⟨p',hs'⟩ (e.trans hr) h1 h2
 |aP id ver off n cap size b hp h1 h2=>exact .aP id ver off n cap size b (hp.oW h) h1 h2
 |dM id ver off b hp=>exact .dM id ver off b (hp.oW h)
 |gG id b hd hn hr=>
  obtain⟨e,hn'⟩:=h.oF id hd hn;exact .gG id b (h.bQ id hd) hn' (e.trans hr)
 |iface t v p _ ih=>exact .iface t v p ih
 |fM ad fA ds off hl h1 hcell _ ih=>
  refine .fM ad fA ds off hl h1 (λj v hj=>?_) ih;obtain⟨h2,h3⟩:=hcell j v hj;obtain⟨q1,q2⟩:=h.cell _ _ h3 h2;exact⟨q2,q1⟩
 |iN=>exact .iN
 |func f cs ds hl _ ih=>exact .func f cs ds hl ih
 |kX f cs ds hl _ ih=>exact .kX f cs ds hl ih
 |jU=>exact .jU
 |gR v h=>exact .gR v h
 |yield id l hd hn hr=>
  obtain⟨e,hn'⟩:=h.oF id hd hn;exact .yield id l (h.bQ id hd) hn' (e.trans hr)
 |aH cs ds hl _ ih=>exact .aH cs ds hl ih
theorem VR.mono{fl:Nat}{c c':Cx}(h:Nx fl c c'){v:Value}{p:PD}(hv:VR c v p):VR c' v p:=hv.oW h.UC
theorem aZ.oW{c c':Cx}(h:Nv c c'){cs:Jm}{ds:Jk}(hv:aZ c cs ds):aZ c' cs ds:=
 ⟨hv.1,λi v d h1 h2=>(hv.2 i v d h1 h2).oW h⟩
theorem PK.oW{c c':Cx}(h:Nv c c')(hg:PK c):PK c':=λg ds e=>(hg g ds e).oW h
theorem Gl.mono{fl:Nat}{c c':Cx}(h:Nx fl c c')(hg:Gl c):Gl c':=by
 refine⟨hg.1.oW h.UC,λg hh=>?_⟩;obtain⟨⟨cs,T,fz,e1,e2⟩,e3⟩:=hg.2 g hh;have hlt:g<c.w.heap.size:=(yDE.1 e1).1;refine⟨⟨cs,T,fz,?_,e2⟩,λid hd hb=>?_⟩
 .rw[h.frame g hlt (λid hd _=>e3 id hd)];exact e1
 .obtain⟨q1,q2⟩:=h.back id g hd hb hlt;exact e3 id q1 q2
theorem aZ.mono{fl:Nat}{c c':Cx}(h:Nx fl c c'){cs:Jm}{ds:Jk}(hv:aZ c cs ds):aZ c' cs ds:=
 ⟨hv.1,λi v d h1 h2=>(hv.2 i v d h1 h2).mono h⟩
mutual
def PD.strip:PD->PD
 |.agg cs=>.agg (PD.mF cs)
 |.typed t cs=>.typed t (PD.mF cs)
 |.slice _ [] _=>.slice 0 [] .any
 |.slice n (x::xs) _=>.slice n (x.strip::PD.mF xs) .any
 |.aH vs=>.aH (PD.mF vs)
 |p=>p
def PD.mF:List PD->Jk
 | []=>[]
 |x::xs=>x.strip::PD.mF xs
end
mutual
def PD.cI:PD->Bool
 |.agg cs=>PD.fZ cs
 |.typed _ cs=>PD.fZ cs
 |.slice _ xs tok=>PD.fZ xs&&(match tok with|.own _=>false|_=>true)
 |.aH vs=>PD.fZ vs
 |.fM cs _=>PD.fZ cs
 |.func _ cap=>PD.fZ cap
 |.kX _ cap=>PD.fZ cap
 |.ptr _ _=>false
 |.eD _ _ _ _=>false
 |.aP _ _ _ _ _=>false
 |.dM _ _ _=>false
 |.gG _=>false
 |.iface _ p=>p.cI
 |.yield _=>false
 |_=>true
def PD.fZ:List PD->Bool
 | []=>true
 |x::xs=>x.cI&&PD.fZ xs
end
theorem PD.r8:∀xs:List PD,PD.mF xs=xs.map PD.strip
 | []=>by simp[PD.mF]
 |x::xs=>by simp[PD.mF,PD.r8 xs]
theorem PD.tP:∀xs:List PD,PD.fZ xs=xs.all PD.cI
 | []=>by simp[PD.fZ]
 |x::xs=>by simp[PD.fZ,PD.tP xs]
theorem PD.aCk(p:PD):p.strip.cells=p.cells.map PD.strip:=by
 cases p with
 |slice n xs tok=>cases xs<;>simp[PD.strip,PD.cells]
 |_=>simp[PD.strip,PD.cells,PD.r8]
theorem PD.tO(n:Nat)(xs:List PD)(tok:Tok):PD.strip (.slice n xs tok)=.slice (if xs.length=0 then 0 else n) (xs.map PD.strip) .any:=by
 cases xs<;>simp[PD.strip,PD.r8]
theorem VR.strip{c:Cx}{v:Value}{p:PD}(hv:VR c v p):VR c v p.strip:=by
 induction hv with
 |bool b=>simp only[PD.strip];exact .bool b
 |int k n=>simp only[PD.strip];exact .int k n
 |str s=>simp only[PD.strip];exact .str s
 |agg cs ds hl h1 _ ih=>
  simp only[PD.strip,PD.r8];refine .agg cs _ Ez h1 (λi v d hv hd=>?_);exact me
 |slice A n cap size xs tok fl hn hc hm hx hf h1 hcell _ ht ih=>
  rw[PD.tO];refine .slice A n cap _ _ .any fl Gi hc hm ?_ ?_ h1 hcell (λj v d hv hd=>?_) trivial
  .intro x hxm;obtain⟨y,hy,rfl⟩:=yAw.1 hxm;rw[PD.aCk,yAe,hx y hy];have:xs.length≠0:=λe=>by rw[yAf e]at hy;cases hy
   rw[yAI this]
  .rw[hf,hn];split
   .rename_i h0;rw[h0];simp
   .rfl
  .rw[List.flatMap_map]at hd;have e:(xs.flatMap λa=>(PD.strip a).cells)=(xs.flatMap PD.cells).map PD.strip:=by
    rw[List.map_flatMap];exact yAL (λf=>xs.flatMap f) (funext PD.aCk)
   rw[e,yAo]at hd;cases hx:(xs.flatMap PD.cells)[j]? with
   |none=>rw[hx]at hd;simp at hd
   |some x=>
    rw[hx]at hd;simp only[yAC,yAb]at hd;subst hd;exact ih j v x hv hx
 |ptr id off b hd hs hr=>simp only[PD.strip];exact .ptr id off b hd hs hr
 |eD id off n cap size b hd hs hr h1 h2=>simp only[PD.strip];exact .eD id off n cap size b hd hs hr h1 h2
 |aP id ver off n cap size b hp h1 h2=>simp only[PD.strip];exact .aP id ver off n cap size b hp h1 h2
 |dM id ver off b hp=>simp only[PD.strip];exact .dM id ver off b hp
 |gG id b hd hn hr=>simp only[PD.strip];exact .gG id b hd hn hr
 |iface t v p h _=>simp only[PD.strip];exact .iface t v p h
 |fM ad fl ds off hl h1 hcell h2 _=>simp only[PD.strip];exact .fM ad fl ds off hl h1 hcell h2
 |iN=>simp only[PD.strip];exact .iN
 |func f cs ds hl h _=>simp only[PD.strip];exact .func f cs ds hl h
 |kX f cs ds hl h _=>simp only[PD.strip];exact .kX f cs ds hl h
 |jU=>simp only[PD.strip];exact .jU
 |gR v h=>simp only[PD.strip];exact .gR v h
 |yield id l hd hn hr=>simp only[PD.strip];exact .yield id l hd hn hr
 |aH cs ds hl _ ih=>
  simp only[PD.strip,PD.r8];refine .aH cs _ Ez (λi v d hv hd=>?_);exact me
theorem VR.free{c c':Cx}(hcell:∀a v,c.av a->c.w.cell? a=some v->c'.av a/\c'.w.cell? a=some v){v:Value}{p:PD}(hv:VR c v p):p.cI=true->VR c' v p:=by
 have at_:∀ {ds:Jk} {i:Nat} {d:PD},PD.fZ ds=true->ds[i]?=some d->d.cI=true:=by
  intro ds i d h hd;rw[PD.tP]at h;exact yAn.1 h d (yAE hd)
 induction hv with
 |bool b=>intro _;exact .bool b
 |int k n=>intro _;exact .int k n
 |str s=>intro _;exact .str s
 |agg cs ds hl h1 _ ih=>
  intro hp;simp only[PD.cI]at hp;exact xw
 |slice A n cap size xs tok fA hn hc hm hx hf h1 hcl _ ht ih=>
  intro hp;simp only[PD.cI,yAr]at hp;refine .slice A n cap size xs tok fA hn hc hm hx hf h1 (λj v hj=>?_) (λj v d hv hd=>ih j v d hv hd ?_) ?_
  .obtain⟨ad,e,h2,h3⟩:=hcl j v hj;obtain⟨q1,q2⟩:=hcell _ _ h3 h2;exact⟨ad,e,q2,q1⟩
  .obtain⟨x,hxm,hdm⟩:=yCT.1 (yAE hd);have hxf:x.cI=true:=by
    have:=hp.1;rw[PD.tP]at this;exact yAn.1 this x hxm
   cases x with
   |agg cs=>
    exact ug
   |typed t cs=>
    exact ug
   |_=>simp only[PD.cells,yCt]at hdm;rw[hdm];exact hxf
  .cases tok with
   |any=>trivial
   |full=>exact ht
   |nil=>exact ht
   |j4=>exact ht
   |kW=>exact ht
   |own id=>simp at hp
 |ptr id off b hd hs hr=>intro hp;simp[PD.cI]at hp
 |eD id off n cap size b hd hs hr h1 h2=>intro hp;simp[PD.cI]at hp
 |aP id ver off n cap size b hp h1 h2=>intro hp;simp[PD.cI]at hp
 |dM id ver off b hp=>intro hp;simp[PD.cI]at hp
 |gG id b hd hn hr=>intro hp;simp[PD.cI]at hp
 |iface t v p _ ih=>intro hp;simp only[PD.cI]at hp;exact .iface t v p (ih hp)
 |fM ad fA ds off hl h1 hcl _ ih=>
  intro hp;simp only[PD.cI]at hp;refine .fM ad fA ds off hl h1 (λj v hj=>?_) (λj v d hv hd=>ih j v d hv hd (at_ hp hd));obtain⟨h2,h3⟩:=hcl j v hj;obtain⟨q1,q2⟩:=hcell _ _ h3 h2;exact⟨q2,q1⟩
 |iN=>intro _;exact .iN
 |func f cs ds hl _ ih=>
  intro hp;simp only[PD.cI]at hp;exact .func f cs ds hl (λi v d hv hd=>ih i v d hv hd (at_ hp hd))
 |kX f cs ds hl _ ih=>
  intro hp;simp only[PD.cI]at hp;exact .kX f cs ds hl (λi v d hv hd=>ih i v d hv hd (at_ hp hd))
 |jU=>intro _;exact .jU
 |gR v h=>intro _;exact .gR v h
 |yield id l hd hn hr=>intro hp;simp[PD.cI]at hp
 |aH cs ds hl _ ih=>
  intro hp;simp only[PD.cI]at hp;exact yd
theorem aZ.strip{c:Cx}{cs:Jm}{ds:Jk}(hv:aZ c cs ds):aZ c cs (ds.map PD.strip):=
 ⟨by simpa using hv.1,λi v d h1 h2=>by
  rw[yAo]at h2;cases hx:ds[i]? with
  |none=>rw[hx]at h2;simp at h2
  |some x=>
   rw[hx]at h2;simp only[yAC,yAb]at h2;subst h2;exact(hv.2 i v x h1 hx).strip⟩
theorem aZ.free{c c':Cx}(hcell:∀a v,c.av a->c.w.cell? a=some v->c'.av a/\c'.w.cell? a=some v){cs:Jm}{ds:Jk}(hv:aZ c cs ds)(h:PD.fZ ds=true):aZ c' cs ds:=
 ⟨hv.1,λi v d h1 h2=>(hv.2 i v d h1 h2).free hcell (by
  rw[PD.tP]at h;exact yAn.1 h d (yAE h2))⟩
end
def PD.plain:PD->Bool
 |.agg _|.aH _|.typed _ _=>false
 |_=>true
def wM:Value->Option PD
 |.bool b=>some (.bool b)
 |.int k n=>some (.int k n)
 |.string s=>some (.str s.data.toList)
 |.slice none 0 0=>some (.slice 0 [] .full)
 |.pointer none=>some .iN
 |.nilFunc=>some .jU
 |.nilIface=>some (.gR .nilIface)
 |.map none=>some (.gR (.map none))
 |_=>none
def wN:List Value->Option (List PD)
 | []=>some []
 |v::vs=>match wM v,wN vs with
  |some p,some ps=>some (p::ps)
  |_,_=>none
def ofValue:Value->Option PD
 |.agg cs=>match wN cs.toList with|some ps=>some (.agg ps)|none=>none
 |.tuple vs=>if vs.size=0 then some (.aH [])else none
 |v=>wM v
def fQ(P:Program)(t:TypeId):Option PD:=
 match P.info? t with
 |some i=>match i.zero with|some z=>ofValue z|none=>none
 |none=>none
def cT(P:Program)(t:TypeId):Option Nat:=match P.info? t with|some i=>some i.size|none=>none
def gQ(P:Program)(t:TypeId):Option Bool:=
 match P.underlying t with
 |some (.struct _)|some (.array _ _)=>some true
 |some _=>some false
 |none=>none
def bH(fr:List PD):Operand->Option PD
 |.tmp t=>some (fr.getD t (.aH []))
 |.const v=>ofValue v
 |.func f=>some (.func f [])
 |.global g=>match AO g with
   |some ds=>some (.fM ds 0)
   |none=>none
def lK(fr:List PD):List Operand->Option (List PD)
 | []=>some []
 |x::xs=>match bH fr x,lK fr xs with
  |some p,some ps=>some (p::ps)
  |_,_=>none
def oT(P:Program)(t:TypeId)(cs:List PD)(off:Nat):Option PD:=
 match gQ P t,cT P t with
 |some true,some n=>if off+n<=cs.length then some (.agg ((cs.drop off).take n))else none
 |some false,some _=>cs[off]?
 |_,_=>none
def C1(op:BinOp)(k:IntKind)(x y:Int):Option Int:=
 match op with
 |.and=>some (k.wrap ((BitVec.ofInt k.bits x) &&& (BitVec.ofInt k.bits y)).toNat)
 |.or=>some (k.wrap ((BitVec.ofInt k.bits x) ||| (BitVec.ofInt k.bits y)).toNat)
 |.xor=>some (k.wrap ((BitVec.ofInt k.bits x) ^^^ (BitVec.ofInt k.bits y)).toNat)
 |.andNot=>some (k.wrap ((BitVec.ofInt k.bits x) &&& ~~~(BitVec.ofInt k.bits y)).toNat)
 |_=>none
def iY(op:BinOp)(k:IntKind)(x y:Int):Option PD:=
 match op with
 |.add=>some (.int k (k.wrap (x+y)))
 |.sub=>some (.int k (k.wrap (x-y)))
 |.mul=>some (.int k (k.wrap (x*y)))
 |.quo=>if y=0 then none else some (.int k (k.wrap (x.tdiv y)))
 |.rem=>if y=0 then none else some (.int k (x.tmod y))
 |.eql=>some (.bool (x==y))
 |.neq=>some (.bool (x != y))
 |.lss=>some (.bool (decide (x<y)))
 |.leq=>some (.bool (decide (x<=y)))
 |.gtr=>some (.bool (decide (x > y)))
 |.geq=>some (.bool (decide (x >= y)))
 |.and|.or|.xor|.andNot=>match C1 op k x y with|some z=>some (.int k z)|none=>none
 |_=>none
def KF(op:BinOp)(k:IntKind)(x y:Int):Option PD:=
 if y<0 then none else
 match op with
 |.shl=>some (.int k (k.wrap (x*2^(min y.toNat k.bits))))
 |.shr=>some (.int k (x.fdiv (2^(min y.toNat k.bits))))
 |_=>none
def KE(op:BinOp)(x y:List UInt8):Option PD:=
 match op with
 |.add=>if x.length+y.length<=maxLen then some (.str (x++y))else none
 |.eql=>some (.bool (x==y))
 |.neq=>some (.bool (!(x==y)))
 |.lss=>some (.bool (Op.bytesLess x y))
 |.leq=>some (.bool (Op.bytesLess x y||x==y))
 |.gtr=>some (.bool (!(Op.bytesLess x y||x==y)))
 |.geq=>some (.bool (!(Op.bytesLess x y)))
 |_=>none
def AU(eq:TypeId->PD->PD->Option Bool)(P:Program)(xs ys:List PD):List Field->Option Bool
 | []=>some true
 |f::fs=>
  if f.name= "_" then AU eq P xs ys fs
  else match oT P f.type xs f.offset,oT P f.type ys f.offset with
   |some a,some b=>match eq f.type a b with
    |some true=>AU eq P xs ys fs
    |some false=>some false
    |none=>none
   |_,_=>none
def CV(eq:PD->PD->Option Bool)(P:Program)(e:TypeId)(n:Nat)(xs ys:List PD):Nat->Nat->Option Bool
 |_,0=>some true
 |i,m+1=>match oT P e xs (i*n),oT P e ys (i*n)with
  |some a,some b=>match eq a b with
   |some true=>CV eq P e n xs ys (i+1) m
   |some false=>some false
   |none=>none
  |_,_=>none
def mE(P:Program):Nat->TypeId->PD->PD->Option Bool
 |0,_,_,_=>none
 |d+1,t,x,y=>
  match P.underlying t with
  |some .bool=>match x,y with|.bool a,.bool b=>some (a==b)|_,_=>none
  |some (.int _)=>match x,y with|.int k a,.int k' b=>if k=k' then some (a==b)else none|_,_=>none
  |some .string=>match x,y with|.str a,.str b=>some (a==b)|_,_=>none
  |some (.pointer _)=>match x,y with
   |.iN,.iN=>some true
   |.iN,.ptr _ _=>some false
   |.iN,.fM _ _=>some false
   |.ptr _ _,.iN=>some false
   |.fM _ _,.iN=>some false
   |_,_=>none
  |some (.func ..)=>match x,y with
   |.jU,.jU=>some true
   |.jU,.func _ _=>some false
   |.func _ _,.jU=>some false
   |_,_=>none
  |some (.struct fs)=>match x,y with
   |.agg xs,.agg ys=>if P.stoodInHeld t then none else AU (mE P d) P xs ys fs.toList
   |_,_=>none
  |some (.array len e)=>match x,y with
   |.agg xs,.agg ys=>match cT P e with
     |some n=>CV (mE P d e) P e n xs ys 0 len
     |none=>none
   |_,_=>none
  |_=>none
def qO(P:Program)(t:TypeId)(x y:PD):Option Bool:=
 match x,y with
 |.agg _,.agg _=>if P.eqGuardType P.depth t then none else mE P 12 t x y
 |_,_=>mE P 12 t x y
def eM(P:Program)(op:BinOp)(t:TypeId)(x y:PD):Option PD:=
 match x,y with
 |.int k a,.int k' b=>
   match op with
   |.shl|.shr=>KF op k a b
   |_=>if k=k' then iY op k a b else none
 |.str a,.str b=>KE op a b
 |_,_=>
  match op with
  |.eql=>match qO P t x y with|some b=>some (.bool b)|none=>none
  |.neq=>match qO P t x y with|some b=>some (.bool (!b))|none=>none
  |_=>none
def HB(op:UnOp)(x:PD):Option PD:=
 match op,x with
 |.neg,.int k n=>some (.int k (k.wrap (0-n)))
 |.xor,.int k n=>match C1 .xor k (if k.signed then -1 else k.max) n with|some z=>some (.int k z)|none=>none
 |.not,.bool b=>some (.bool (!b))
 |_,_=>none
def KB(P:Program)(src dst:TypeId)(x:PD):Option PD:=
 match P.underlying src,P.underlying dst,x with
 |some (.int _),some (.int k),.int _ n=>some (.int k (k.wrap n))
 |some .string,some .string,.str s=>some (.str s)
 |_,_,_=>none
def gL:Option PD->Option Nat
 |some (.int _ i)=>if 0<=i then some i.toNat else none
 |_=>none
def kT(n:Nat)(lo hi:Option (Option PD)):Option (Nat×Nat):=
 match (match hi with|some h=>gL h|none=>some n),(match lo with|some l=>gL l|none=>some 0)with
 |some h,some l=>if l<=h/\h<=n then some (l,h)else none
 |_,_=>none
def kQ(P:Program)(t:TypeId)(x:PD)(lo hi mx:Option (Option PD)):Option PD:=
 match P.underlying t,x with
 |some .string,.str s=>
  if mx.isSome then none else
  match kT s.length lo hi with
  |some (l,h)=>some (.str ((s.drop l).take (h-l)))
  |none=>none
 |some (.slice e),.slice size xs tok=>
  match cT P e,kT xs.length lo hi with
  |some n,some (l,h)=>
   if xs.length=0\/n=size then
    match mx with
    |none=>some (.slice size ((xs.drop l).take (h-l))
      (if h=xs.length then(match tok with|.full=>.full|.own id=>if l=0 then .own id else .any|_=>.any)else .any))
    |some m=>match hi,gL m with
     |some _,some m=>if h<=m/\m<=xs.length then some (.slice size ((xs.drop l).take (h-l)) (if m=h then .full else .any))else none
     |_,_=>none
   else none
  |_,_=>none
 |some (.slice e),.eD id off m size=>
  match cT P e,kT m lo hi,mx with
  |some n,some (l,h),none=>if n=size/\(l=0\/l<m)then some (.eD id (off+l*n) (h-l) n)else none
  |_,_,_=>none
 |some (.slice e),.aP id ver off m size=>
  match cT P e,kT m lo hi with
  |some n,some (l,h)=>
   if n=size then
    match mx with
    |none=>if l=0\/l<m then some (.aP id ver (off+l*n) (h-l) n)else some (.slice n [] .any)
    |some mv=>match hi,gL mv with
     |some _,some k=>if k=h/\l=h then some (.slice n [] .full)else none
     |_,_=>none
   else none
  |_,_=>none
 |some (.array len e),.ptr id off=>
  match cT P e,kT len lo hi,mx with
  |some n,some (l,h),none=>if len<=1000000/\(l=0\/l<len)then some (.eD id (off+l*n) (h-l) n)else none
  |_,_,_=>none
 |_,_=>none
def CW(P:Program)(s:TypeId)(x:PD)(f:Nat):Option PD:=
 match P.underlying s with
 |some (.struct fs)=>match fs[f]? with
  |some fd=>match cT P fd.type with
   |some n=>if n=0 then none else match x with
    |.ptr id off=>some (.ptr id (off+fd.offset))
    |.fM cs off=>some (.fM cs (off+fd.offset))
    |.dM id ver off=>some (.dM id ver (off+fd.offset))
    |_=>none
   |none=>none
  |none=>none
 |_=>none
def HC(P:Program)(t:TypeId)(x:PD)(f:Nat):Option PD:=
 match P.underlying t,x with
 |some (.struct fs),.agg cs=>match fs[f]? with
  |some fd=>oT P fd.type cs fd.offset
  |none=>none
 |_,_=>none
def jH(P:Program)(t:TypeId)(x:PD)(i:PD):Option PD:=
 match gL (some i),P.underlying t with
 |some i,some (.array len e)=>match cT P e with
  |some n=>if i<len then(match x with
    |.ptr id off=>some (.ptr id (off+i*n))
    |.fM cs off=>some (.fM cs (off+i*n))
    |.dM id ver off=>some (.dM id ver (off+i*n))
    |_=>none)else none
  |none=>none
 |some i,some (.slice e)=>match x,cT P e with
  |.slice size xs _,some n=>if (xs.length=0\/n=size)/\0<n then(match xs[i]? with
    |some p=>some (.fM p.cells 0)
    |none=>none)else none
  |.eD id off m size,some n=>if n=size/\i<m then some (.ptr id (off+i*n))else none
  |.aP id ver off m size,some n=>if n=size/\i<m then some (.dM id ver (off+i*n))else none
  |_,_=>none
 |_,_=>none
def AX(P:Program)(t:TypeId)(x:PD)(i:PD):Option PD:=
 match gL (some i),P.underlying t,x with
 |some i,some (.array len e),.agg cs=>match cT P e with
  |some n=>if i<len then oT P e cs (i*n)else none
  |none=>none
 |some i,some .string,.str s=>match s[i]? with|some b=>some (.int .u8 b.toNat)|none=>none
 |_,_,_=>none
def HF(P:Program):List Field->Option (List (Nat×Nat))
 | []=>some []
 |f::fs=>match cT P f.type,HF P fs with
  |some n,some ps=>some ((f.offset,n)::ps)
  |_,_=>none
def dL(cs:List PD)(off:Nat)(new:List PD):List PD:=cs.take off++new++cs.drop (off+new.length)
def zI(place:Nat->Option (Nat×Nat))(cs:List PD):List (Nat×PD)->Option (List PD)
 | []=>some cs
 |(i,p)::rest=>match place i with
  |none=>none
  |some (off,n)=>if p.cells.length≠n\/off+p.cells.length > cs.length\/p.cells.all PD.plain=false then none else zI place (dL cs off p.cells) rest
def rH(fr:List PD):List (Nat×Operand)->Option (List (Nat×PD))
 | []=>some []
 |(i,x)::r=>match bH fr x,rH fr r with
  |some p,some ps=>some ((i,p)::ps)
  |_,_=>none
def E7(P:Program)(t:TypeId)(parts:List (Nat×PD)):Option PD:=
 match fQ P t with
 |some (.agg z)=>match P.underlying t with
  |some (.struct fs)=>match HF P fs.toList with
   |some pl=>match zI (pl[·]?) z parts with|some cs=>some (.agg cs)|none=>none
   |none=>none
  |some (.array _ e)=>match cT P e with
   |some n=>match zI (λi=>some (i*n,n)) z parts with|some cs=>some (.agg cs)|none=>none
   |none=>none
  |_=>none
 |_=>none
def FC(lt:Bool):PD->List PD->Option PD
 |.int k x,[]=>some (.int k x)
 |.int k x,.int _ y::r=>FC lt (.int k (if lt then(if y<x then y else x)else(if y > x then y else x))) r
 |_,_=>none
def gF(P:Program)(b:Builtin)(argTypes:Array TypeId)(args:List PD):Option PD:=
 match b with
 |.len=>match argTypes[0]? with
   |some t=>match P.underlying t,args with
    |some .string,.str s::_=>some (.int .i64 s.length)
    |some (.array n _),_::_=>some (.int .i64 n)
    |some (.slice _),.slice _ xs _::_=>some (.int .i64 xs.length)
    |some (.slice _),.eD _ _ n _::_=>some (.int .i64 n)
    |some (.slice _),.aP _ _ _ n _::_=>some (.int .i64 n)
    |_,_=>none
   |none=>none
 |.min=>match args with|x::r=>FC true x r | []=>none
 |.max=>match args with|x::r=>FC false x r | []=>none
 |.cap=>match argTypes[0]? with
   |some t=>match P.underlying t,args with
    |some (.slice _),.slice _ xs .full::_=>some (.int .i64 xs.length)
    |_,_=>none
   |none=>none
 |_=>none
def iL:PD->Option Bool
 |.slice n xs tok=>if xs.length≠0/\n≠0 then some false else(match tok with
   |.nil=>some true
   |.j4=>some true
   |.kW=>some false
   |_=>none)
 |.eD _ _ _ _=>some false
 |.aP _ _ _ _ _=>some false
 |_=>none
def CY(P:Program)(op:BinOp)(t:TypeId)(a:PD)(y:Operand):Option PD:=
 match y with
 |.const (.slice none 0 0)=>(match P.underlying t with
   |some (.slice _)=>(match op,iL a with
    |.eql,some b=>some (.bool b)
    |.neq,some b=>some (.bool (!b))
    |_,_=>none)
   |_=>none)
 |_=>none
def eS(P:Program)(fr:List PD):Op->Option PD
 |.move x|.assign x=>bH fr x
 |.pick c a b=>match bH fr c with
   |some (.bool true)=>bH fr a
   |some (.bool false)=>bH fr b
   |_=>none
 |.binOp op t x y _=>match bH fr x,bH fr y with
   |some a,some b=>(match eM P op t a b with|some r=>some r|none=>CY P op t a y)
   |_,_=>none
 |.unOp op _ x=>match bH fr x with|some a=>HB op a|none=>none
 |.convert s d x=>if E8 s d=true then none else match bH fr x with|some a=>KB P s d a|none=>none
 |.makeFunc (.func f) first captured=>if first.size=0 then(match lK fr captured.toList with|some ps=>some (.func f ps)|none=>none)
   else if captured.size=0 then(match lK fr first.toList with|some ps=>some (.kX f ps)|none=>none)else none
 |.slice t x lo hi mx=>match bH fr x with
   |some a=>kQ P t a (lo.map (bH fr)) (hi.map (bH fr)) (mx.map (bH fr))
   |none=>none
 |.fieldAddr s x f=>match bH fr x with|some a=>CW P s a f|none=>none
 |.field t x f=>match bH fr x with|some a=>HC P t a f|none=>none
 |.indexAddr t x i=>match bH fr x,bH fr i with
   |some a,some b=>jH P t a b
   |_,_=>none
 |.index t x i=>match bH fr x,bH fr i with
   |some a,some b=>AX P t a b
   |_,_=>none
 |.extract x i=>match bH fr x with
   |some (.aH vs)=>vs[i]?
   |_=>none
 |.nilCheck x=>match bH fr x with
   |some (.ptr id off)=>some (.ptr id off)
   |some (.fM cs off)=>some (.fM cs off)
   |some (.dM id ver off)=>some (.dM id ver off)
   |_=>none
 |.build t parts=>match rH fr parts.toList with|some ps=>E7 P t ps|none=>none
 |.call { callee:=.builtin b,args:=args,argTypes:=ts }=>match lK fr args.toList with
   |some ps=>gF P b ts ps
   |none=>none
 |_=>none
def qP(P:Program)(σ:List aA)(t:TypeId):PD->Option PD
 |.ptr id off=>match σ[id]? with
   |some (.box p)=>oT P t p.cells off
   |_=>none
 |.fM cs off=>oT P t cs off
 |.dM id ver off=>match σ[id]? with
   |some (.row _ _ gO cs)=>if ver=gO then oT P t cs off else none
   |_=>none
 |_=>none
def xP:PD->PD
 |.slice 0 [] .full=>.slice 0 [] .nil
 |p=>p
def boxed(t:TypeId):PD->PD
 |.agg cs=>if ON t=true then .typed t (cs.map xP)else .agg cs
 |p=>p
def PD.setCells(p:PD)(off:Nat)(new:List PD):Option PD:=
 match p with
 |.agg cs=>if off+new.length<=cs.length then some (.agg (dL cs off new))else none
 |.typed t cs=>if off+new.length<=cs.length then some (.typed t (dL cs off new))else none
 |_=>if off=0 then(match new with | [q]=>some q|_=>none)else none
def rE(P:Program)(fl:Nat)(σ:List aA)(t:TypeId)(a p:PD):Option (List aA):=
 match a with
 |.ptr id off=>if fl<=id then(match σ[id]?,cT P t with
   |some (.box q),some n=>if p.cells.length=n/\p.cells.all PD.plain=true then(match q.setCells off p.cells with
     |some q'=>some (σ.set id (.box q'))
     |none=>none)else none
   |_,_=>none)else none
 |.dM id ver off=>if fl<=id then(match σ[id]?,cT P t with
   |some (.row e sz gO cs),some n=>if ver=gO/\p.cells.length=n/\p.cells.all PD.plain=true/\off+n<=cs.length then some (σ.set id (.row e sz ver (dL cs off p.cells)))else none
   |_,_=>none)else none
 |_=>none
def HE(i:Nat):List (Nat×PD)->Option (List PD)
 | []=>some []
 |(j,p)::r=>if j=i then(match HE (i+1) r with|some ps=>some (p::ps)|none=>none)else none
def uV(P:Program)(t:TypeId)(len:Nat)(parts:List (Nat×PD)):Option PD:=
 match P.underlying t with
 |some (.slice e)=>match cT P e,fQ P e,HE 0 parts with
  |some n,some z,some ps=>
   if ps.length=len/\0<n/\len*n<=16777216/\ps.all (λp=>p.cells.length=n&&p.cells.all PD.plain)=true/\z.cells.length=n/\z.cells.all PD.plain=true then some (.slice n ps .full)else none
  |_,_,_=>none
 |_=>none
def OO(P:Program)(t:TypeId):Bool:=
 match P.underlying t with
 |some (.slice e)=>match P.info? e with
  |some i=>match i.zero with
   |some (.int .u8 0)=>i.size==1&&i.bytes==1
   |_=>false
  |none=>false
 |_=>false
def kG(P:Program)(fl:Nat)(σ:List aA)(t:TypeId)(s x:PD):Option (PD×List aA):=
 match P.underlying t with
 |some (.slice e)=>match P.info? e with
  |some i=>match i.zero,s,x with
   |some z,.slice sz xs tok,.slice sz' ys _=>
    if (xs.length=0\/sz=i.size)/\(ys.length=0\/sz'=i.size)/\0<i.size/\z.cells.size=i.size/\xs.length+ys.length<=maxLen /\
        (xs.length+ys.length)*i.bytes<=140737488355328 then
     if ys.length=0 then some (s,σ)else
     match tok with
     |.full=>some (.slice i.size (xs++ys) (.own σ.length),σ++[.own e i.size (xs.length+ys.length)])
     |.nil=>some (.slice i.size (xs++ys) (.own σ.length),σ++[.own e i.size (xs.length+ys.length)])
     |.own id=>if fl<=id/\sz=i.size then(match σ[id]? with
       |some (.own e' tY n)=>if e'=e/\tY=i.size/\n=xs.length then
         some (.slice i.size (xs++ys) (.own id),σ.set id (.own e i.size (xs.length+ys.length)))else none
       |_=>none)else none
     |_=>none
    else none
   |_,_,_=>none
  |none=>none
 |_=>none
def wS(z:PD)(n l:Nat):List PD:=(List.range (l*n)).map λk=>z.cells.getD (k%n) (.aH [])
def sG(n:Nat):Nat->List PD->Jk
 |0,_=>[]
 |k+1,cs=>.agg (cs.take n)::sG n k (cs.drop n)
def vA(σ:List aA):PD->Option (Nat×List PD)
 |.slice sz ys _=>some (sz,ys)
 |.aP id ver off n sz=>match σ[id]? with
   |some (.row _ sz' gO cs)=>if ver=gO/\sz'=sz/\off+n*sz<=cs.length then some (sz,sG sz n (cs.drop off))else none
   |_=>none
 |.eD id off n sz=>match σ[id]? with
   |some (.box q)=>if off+n*sz<=q.cells.length then some (sz,sG sz n (q.cells.drop off))else none
   |_=>none
 |_=>none
def Tok.fresh:Tok->Bool
 |.full=>true
 |_=>false
def dY(P:Program)(n:Nat)(fl:Nat)(σ:List aA)(t:TypeId)(s x:PD):Option (PD×List aA):=
 if iM t n=true then
  match P.underlying t,vA σ x with
  |some (.slice e),some (sz',ys)=>match P.info? e with
   |some i=>match i.zero with
    |some z=>
     if (ys.length=0\/sz'=i.size)/\0<i.size/\z.cells.size=i.size/\z.cells.toList.all Value.oneCell'=true then
      match s with
      |.slice sz xs tok=>
        if (xs.length=0\/sz=i.size)/\xs.length+ys.length<=maxLen/\(xs.length+ys.length)*i.bytes<=140737488355328/\tok.fresh=true then
         if ys.length=0 then some (s,σ)
         else some (.aP σ.length 0 0 (xs.length+ys.length) i.size,σ++[.row e i.size 0 ((xs++ys).flatMap PD.cells)])
        else none
      |.aP id ver off n sz=>
        if fl<=id/\sz=i.size/\n+ys.length<=maxLen/\(n+ys.length)*i.bytes<=140737488355328 then
         match σ[id]? with
         |some (.row e' tY gO cs)=>
          if e'=e/\tY=i.size/\gO=ver then
           if off+(n+ys.length)*i.size<=cs.length then some (.aP id ver off (n+ys.length) i.size,σ.set id (.row e i.size ver (dL cs (off+n*i.size) (ys.flatMap PD.cells))))
           else if off=0/\n*i.size=cs.length then some (.aP id (ver+1) 0 (n+ys.length) i.size,σ.set id (.row e i.size (ver+1) (cs++ys.flatMap PD.cells)))
           else none
          else none
         |_=>none
        else none
      |_=>none
     else none
    |none=>none
   |none=>none
  |_,_=>none
 else none
def HG(P:Program)(n:Nat)(σ:List aA)(t:TypeId)(s:PD)(m:Int):Option (PD×List aA):=none
def UD(P:Program)(fl:Nat)(σ:List aA)(t:TypeId)(s:PD):Option (List aA):=none
def UE(P:Program)(fl:Nat)(σ:List aA)(dt st:TypeId)(d x:PD):Option (PD×List aA):=none
def HS(P:Program)(kt:TypeId)(k:PD):Bool:=
 match P.underlying kt,k with
 |some .string,.str _=>true
 |some (.int k0),.int k1 _=>k0==k1
 |_,_=>false
def FN:PD->PD->Option Bool
 |.str a,.str b=>some (a==b)
 |.int k a,.int k' b=>if k=k' then some (a==b)else none
 |_,_=>none
def xQ(k:PD):List (PD×PD)->Nat->Option (Option (Nat×PD))
 | [],_=>some none
 |e::es,i=>match FN k e.1 with
  |some true=>some (some (i,e.2))
  |some false=>xQ k es (i+1)
  |none=>none
def HT(P:Program)(σ:List aA)(t:TypeId)(x k:PD)(ok:Bool):Option PD:=
 match P.underlying t with
 |some (.map kt e)=>if HS P kt k=true then(match x with
   |.gG id=>(match σ[id]? with
     |some (.map es)=>(match xQ k es 0 with
      |some (some (_,v))=>some (if ok then .aH [v,.bool true]else v)
      |some none=>(match fQ P e with
       |some z=>some (if ok then .aH [z,.bool false]else z)
       |none=>none)
      |none=>none)
     |_=>none)
   |.gR (.map none)=>(match fQ P e with
     |some z=>some (if ok then .aH [z,.bool false]else z)
     |none=>none)
   |_=>none)else none
 |_=>none
def HU(P:Program)(fl:Nat)(σ:List aA)(t:TypeId)(x k v:PD):Option (List aA):=
 match P.underlying t with
 |some (.map kt _)=>if HS P kt k=true then(match x with
   |.gG id=>if fl<=id then(match σ[id]? with
     |some (.map es)=>(match xQ k es 0 with
      |some (some (i,_))=>some (σ.set id (.map (es.set i (k,v))))
      |some none=>some (σ.set id (.map (es++[(k,v)])))
      |none=>none)
     |_=>none)else none
   |_=>none)else none
 |_=>none
def FD:List PD->Option (List UInt8)
 | []=>some []
 |.int .u8 n::r=>match FD r with|some l=>some (UInt8.ofNat n.toNat::l)|none=>none
 |_=>none
def KA(P:Program)(s d:TypeId)(x:PD):Option PD:=
 match P.underlying s,P.underlying d,x with
 |some .string,some (.slice e),.str l=>match P.underlying e with
  |some (.int .u8)=>if l.length<=maxLen then some (.slice 1 (l.map λb=>.int .u8 b.toNat) .any)else none
  |_=>none
 |some (.slice e),some .string,.slice sz xs _=>match P.underlying e with
  |some (.int .u8)=>if xs.length=0\/sz=1 then(match FD xs with|some l=>some (.str l)|none=>none)else none
  |_=>none
 |_,_,_=>none
def BB(σ:List aA):PD->Option (List PD)
 |.eD id off n size=>if size=1 then(match σ[id]? with
   |some (.box p)=>if off+n<=p.cells.length then some ((p.cells.drop off).take n)else none
   |_=>none)else none
 |_=>none
def C7(P:Program)(σ:List aA)(s d:TypeId)(x:PD):Option PD:=
 match BB σ x,P.underlying s,P.underlying d with
 |some xs,some (.slice e),some .string=>(match P.underlying e,FD xs with
  |some (.int .u8),some l=>some (.str l)
  |_,_=>none)
 |_,_,_=>none
def uU(P:Program)(σ:List aA)(t e:TypeId)(l k:Nat):Option (PD×List aA):=
 match P.info? e,cT P e,fQ P e with
 |some i,some n,some z=>
  if l<=k/\0<n/\z.cells.length=n/\z.cells.all PD.plain=true/\k<=maxLen/\k*i.bytes<=140737488355328 then
   if l=0/\k≠0 then some (.slice n [] (.own σ.length),σ++[.own e n 0])
   else if l=k then
    if T5 t=true then some (.eD σ.length 0 l n,σ++[.box (.agg (wS z n l))])else some (.slice n (List.replicate l z) .full,σ)
   else none
  else none
 |_,_,_=>none
def dK(P:Program)(fl:Nat)(fr:List PD)(σ:List aA):Op->Option (PD×List aA)
 |.load t x=>match bH fr x with
   |some a=>(match qP P σ t a with|some p=>some (p,σ)|none=>none)
   |none=>none
 |.store t x y=>match bH fr x,bH fr y with
   |some a,some p=>(match rE P fl σ t a p with|some σ'=>some (.aH [],σ')|none=>none)
   |_,_=>none
 |.alloc t=>match fQ P t with
   |some p=>if p.cells.all PD.plain then some (.ptr σ.length 0,σ++[.box (boxed t p)])else none
   |none=>none
 |.box _ x=>match bH fr x with
   |some p=>if p.cells.all PD.plain then some (.ptr σ.length 0,σ++[.box p])else none
   |none=>none
 |.buildSlice t len parts=>match rH fr parts.toList with
   |some ps=>(match uV P t len (ps.map λq=>(q.1,q.2.strip))with|some p=>some (p,σ)|none=>none)
   |none=>none
 |.convert s d x=>if E8 s d=true then(match bH fr x with
   |some a=>(match KA P s d a with|some p=>some (p,σ)|none=>(match C7 P σ s d a with|some p=>some (p,σ)|none=>none))
   |none=>none)else none
 |.makeSlice t l k=>match P.underlying t,gL (bH fr l),gL (bH fr k)with
   |some (.slice e),some l,some k=>uU P σ t e l k
   |_,_,_=>none
 |.call { callee:=.builtin .clear,args:=args,argTypes:=ts }=>match lK fr args.toList,ts.toList with
   |some [s],[t]=>(match UD P fl σ t s with|some σ'=>some (.aH [],σ')|none=>none)
   |_,_=>none
 |.call { callee:=.builtin .copy,args:=args,argTypes:=ts }=>match lK fr args.toList,ts.toList with
   |some [d,x],[t,t']=>UE P fl σ t t' d x
   |_,_=>none
 |.makeMap t none=>match P.underlying t with
   |some (.map _ _)=>some (.gG σ.length,σ++[.map []])
   |_=>none
 |.lookup t x k ok=>match bH fr x,bH fr k with
   |some m,some k=>(match HT P σ t m k ok with|some p=>some (p,σ)|none=>none)
   |_,_=>none
 |.mapUpdate t x k v=>match bH fr x,bH fr k,bH fr v with
   |some m,some k,some v=>(match HU P fl σ t m k v with|some σ'=>some (.aH [],σ')|none=>none)
   |_,_,_=>none
 |.call { callee:=.builtin .append,args:=args,argTypes:=ts }=>match lK fr args.toList,ts.toList with
   |some [s,x],[t,t']=>if t=t' then(match dY P fr.length fl σ t s x with|some r=>some r|none=>kG P fl σ t s x.strip)else(match P.underlying t',x with
    |some .string,.str l=>if OO P t=true then(kG P fl σ t s (.slice (if l.length=0 then 0 else 1) (l.map λb=>.int .u8 b.toNat) .any))else none
    |some (.int .i64),.int .i64 m=>HG P fr.length σ t s m
    |_,_=>none)
   |_,_=>none
 |_=>none
def pop(P:Program)(fl:Nat)(fr:List PD)(σ:List aA)(op:Op):Option (PD×List aA):=
 match eS P fr op with
 |some p=>some (p,σ)
 |none=>dK P fl fr σ op
def iX(fr:List PD):Op->Option ((FuncId ⊕ Nat)×List PD)
 |.call { callee:=.value g,args:=args,.. }=>match bH fr g,lK fr args.toList with
   |some (.func f cap),some ps=>some (.inl f,ps++cap)
   |some (.kX f first),some ps=>some (.inl f,first++ps)
   |some (.yield id),some ps=>some (.inr id,ps)
   |_,_=>none
 |_=>none
def bG(fr:List PD)(dst:Option Tmp)(p:PD):List PD:=
 match dst with
 |some d=>fr.set d p
 |none=>fr
def cK(ops:Array Oper)(fr:List PD)(j:Nat):Option Bool:=
 match (ops[j]?).bind (·.dst)with
 |some d=>match fr[d]? with
  |some (.bool b)=>some b
  |_=>none
 |none=>none
section
theorem UM{c:Cx}{v:Value}{p:PD}(h:wM v=some p):VR c v p/\v.oneCell'=true:=by
 unfold wM at h;split at h<;>simp at h<;>subst h
 .exact⟨.bool _,rfl⟩
 .exact⟨.int _ _,rfl⟩
 .rename_i s;refine⟨?_,rfl⟩;exact wj
 .refine⟨.slice none 0 0 0 [] .full [] rfl (yAk _) (by simp[maxLen]) Ce rfl Ce Ce Ce rfl,rfl⟩
 .exact⟨.iN,rfl⟩
 .exact⟨.jU,rfl⟩
 .exact⟨.gR _ rfl,rfl⟩
 .exact⟨.gR _ rfl,rfl⟩
theorem aCj{c:Cx}:∀ {vs:Jm} {ps:Jk},wN vs=some ps->aZ c vs ps/\∀v∈vs,v.oneCell'=true
 | [],ps,h=>by simp[wN]at h;subst h;exact⟨⟨rfl,Ce⟩,Ce⟩
 |v::vs,ps,h=>by
  unfold wN at h;cases h1:wM v with
  |none=>simp[h1]at h
  |some p=>
   cases h2:wN vs with
   |none=>simp[h1,h2]at h
   |some qs=>
    simp[h1,h2]at h;subst h;have⟨a1,a2⟩:=UM (c:=c) h1;have⟨⟨b1,b2⟩,b3⟩:=aCj (c:=c) h2;refine⟨⟨by simp[b1],λi v' d hv hd=>?_⟩,by simp[a2];exact b3⟩;exact nk
theorem UN{c:Cx}{v:Value}{p:PD}(h:ofValue v=some p):VR c v p:=by
 unfold ofValue at h;split at h
 .rename_i cs;cases h1:wN cs.toList with
  |none=>simp[h1]at h
  |some ps=>
   simp[h1]at h;subst h;have⟨⟨b1,b2⟩,b3⟩:=aCj (c:=c) h1;have:=VR.agg (c:=c) cs.toList ps b1 b3 b2;exact cv
 .rename_i vs;split at h
  .rename_i h0;simp at h;subst h;have:vs=#[]:=yEg h0;subst this;exact VR.aH [] [] rfl Ce
  .exact ak
 .exact(UM h).1
def FR(c:Cx)(a:Act)(fr:List PD):Prop:=aZ c a.tmps.toList fr/\Gl c
theorem FR.mono{fl:Nat}{c c':Cx}(h:Nx fl c c'){a:Act}{fr:Jk}(hf:FR c a fr):FR c' a fr:=⟨aZ.mono h hf.1,hf.2.mono h⟩
theorem K4(c:Cx):VR c undef (.aH []):=VR.aH [] [] rfl Ce
theorem FR.tmp{c:Cx}{a:Act}{fr:Jk}(hf:FR c a fr)(t:Nat):VR c (a.tmps.getD t undef) (fr.getD t (.aH [])):=by
 obtain⟨⟨hl,h⟩,_⟩:=hf;rcases yCg t fr.length with hlt|hge
 .have h1:t<a.tmps.size:=by have:=hl;simp at this;omega
  have:=h t a.tmps[t] fr[t] (by simp[h1]) Ig;simpa [h1,hlt]using this
 .have h1:a.tmps.size<=t:=by have:=hl;simp at this;omega
  simp[Array.getElem?_eq_none h1,yBy hge];exact K4 c
theorem eW{c:Cx}{a:Act}{fr:Jk}(hf:FR c a fr){x:Operand}{p:PD}(h:bH fr x=some p):VR c (a.eval x) p:=by
 cases x with
 |tmp t=>simp only[bH,yAb]at h;subst h;exact hf.tmp t
 |const v=>exact UN h
 |global g=>
  simp only[bH]at h;split at h
  .rename_i ds hg;simp only[yAb]at h;subst h;exact hf.2.1 g ds hg
  .exact ak
 |func f=>simp only[bH,yAb]at h;subst h;exact VR.func f [] [] rfl Ce
theorem tV{c:Cx}{a:Act}{fr:Jk}(hf:FR c a fr):∀ {xs:List Operand} {ps:Jk},lK fr xs=some ps->aZ c (xs.map a.eval) ps
 | [],ps,h=>by simp[lK]at h;subst h;exact⟨rfl,Ce⟩
 |x::xs,ps,h=>by
  unfold lK at h;cases h1:bH fr x with
  |none=>simp[h1]at h
  |some p=>
   cases h2:lK fr xs with
   |none=>simp[h1,h2]at h
   |some qs=>
    simp[h1,h2]at h;subst h;have a1:=eW hf h1;have⟨b1,b2⟩:=tV hf h2;refine⟨by simpa using b1,λi v d hv hd=>?_⟩;cases i with
    |zero=>simp at hv hd;subst hv;subst hd;exact a1
    |succ i=>exact b2 i v d (by simpa using hv) Hr
section inv
variable{c:Cx}{v:Value}
theorem VR.AZ{b:Bool}(h:VR c v (.bool b)):v=.bool b:=Fo
theorem VR.qV{k:IntKind}{n:Int}(h:VR c v (.int k n)):v=.int k n:=Fo
theorem VR.tX{s:Jl}(h:VR c v (.str s)):v=.string ⟨s.toArray⟩:=Fo
theorem VR.BH{ds:Jk}(h:VR c v (.agg ds)):∃cs:List Value,v=.agg cs.toArray/\aZ c cs ds/\∀v∈cs,v.oneCell'=true:=by
 cases h with|agg cs _ h1 h2 h3=>exact⟨cs,rfl,⟨h1,h3⟩,h2⟩
theorem VR.aJe{ds:Jk}(h:VR c v (.aH ds)):∃cs:List Value,v=.tuple cs.toArray/\aZ c cs ds:=by
 cases h with|aH cs _ h1 h2=>exact⟨cs,rfl,⟨h1,h2⟩⟩
theorem VR.KJ{f:Nat}{ds:Jk}(h:VR c v (.func f ds)):∃cs:List Value,v=.func (.func f) #[] cs.toArray/\aZ c cs ds:=by
 cases h with|func _ cs _ h1 h2=>exact⟨cs,rfl,⟨h1,h2⟩⟩
theorem VR.aBL{f:Nat}{ds:Jk}(h:VR c v (.kX f ds)):∃cs:List Value,v=.func (.func f) cs.toArray #[]/\aZ c cs ds:=by
 cases h with|kX _ cs _ h1 h2=>exact⟨cs,rfl,⟨h1,h2⟩⟩
theorem VR.uY{id off:Nat}(h:VR c v (.ptr id off)):∃b,v=.pointer (some ⟨b,off,none⟩)/\c.D id/\(∃p,c.σ[id]?=some (.box p))/\c.ρ id=.pointer (some ⟨b,0,none⟩):=by
 cases h with|ptr _ _ b h1 h2 h3=>exact⟨b,rfl,h1,h2,h3⟩
theorem VR.FI{id off n size:Nat}(h:VR c v (.eD id off n size)):∃b cap,v=.slice (some ⟨b,off,none⟩) n cap/\c.D id/\(∃p,c.σ[id]?=some (.box p))/\c.ρ id=.pointer (some ⟨b,0,none⟩)/\n<=cap/\cap<=maxLen:=by
 cases h with|eD _ _ _ cap _ b h1 h2 h3 h4 h5=>exact⟨b,cap,rfl,h1,h2,h3,h4,h5⟩
theorem VR.DB{id ver off n size:Nat}(h:VR c v (.aP id ver off n size)):∃b cap,v=.slice (some ⟨b,off,none⟩) n cap/\DE c id ver (λsz r=>sz=size/\∃C,r=.slice (some ⟨b,0,none⟩) 0 C/\off+cap*size=C*size)/\n<=cap/\cap<=maxLen:=by
 cases h with|aP _ _ _ _ cap _ b h1 h2 h3=>exact⟨b,cap,rfl,h1,h2,h3⟩
theorem VR.HP{id ver off:Nat}(h:VR c v (.dM id ver off)):∃b,v=.pointer (some ⟨b,off,none⟩)/\DE c id ver (λ_ r=>∃C,r=.slice (some ⟨b,0,none⟩) 0 C):=by
 cases h with|dM _ _ _ b h1=>exact⟨b,rfl,h1⟩
theorem VR.aIG{id:Nat}(h:VR c v (.gG id)):∃b,v=.map (some b)/\c.D id/\mG c.σ[id]?/\c.ρ id=.map (some b):=by
 cases h with|gG _ b h1 h2 h3=>exact⟨b,rfl,h1,h2,h3⟩
theorem VR.FQ(h:VR c v .iN):v=.pointer none:=Fo
theorem VR.PJ(h:VR c v .jU):v=.nilFunc:=Fo
theorem VR.HV{ds:Jk}{off:Nat}(h:VR c v (.fM ds off)):∃(ad:Addr) (fl:List Value),v=.pointer (some (ad.add off))/\aZ c fl ds/\(∀v∈fl,v.oneCell'=true) /\
  ∀(j:Nat) (v:Value),fl[j]?=some v->c.w.cell? (ad.add j)=some v/\c.av (ad.add j):=by
 cases h with|fM ad fl _ _ h1 h2 h3 h4=>exact⟨ad,fl,rfl,⟨h1,h4⟩,h2,h3⟩
theorem VR.pJ{size:Nat}{xs:Jk}{tok:Tok}(h:VR c v (.slice size xs tok)):∃(A:Option Addr) (cap:Nat) (fl:List Value),v=.slice A xs.length cap/\xs.length<=cap/\cap<=maxLen /\
  (∀x∈xs,x.cells.length=size)/\fl.length=xs.length*size/\(∀v∈fl,v.oneCell'=true) /\
  (∀(j:Nat) (v:Value),fl[j]?=some v->∃ad,A=some ad/\c.w.cell? (ad.add j)=some v/\c.av (ad.add j)) /\
  (∀(j:Nat) (v:Value) (d:PD),fl[j]?=some v->(xs.flatMap PD.cells)[j]?=some d->VR c v d)/\sH c size xs.length cap (.slice A xs.length cap) tok:=by
 cases h with|slice A n cap _ _ _ fl h1 h2 h3 h4 h5 h6 h7 h8 h9=>subst h1;exact⟨A,cap,fl,rfl,h2,h3,h4,h5,h6,h7,h8,h9⟩
end inv
theorem VR.cells{c:Cx}{v:Value}{p:PD}(h:VR c v p):aZ c v.cells.toList p.cells:=by
 cases h with
 |agg cs ds h1 h2 h3=>exact⟨by simpa [Value.cells,PD.cells]using h1,by simpa [Value.cells,PD.cells]using h3⟩
 |gR v h=>
  have e:v.cells=#[v]:=by cases v<;>first|rfl|simp[US]at h
  rw[e];refine⟨rfl,λi v' d hv hd=>?_⟩;cases i with
  |zero=>
   simp[PD.cells]at hv hd;subst hv;subst hd;exact .gR v h
  |succ i=>simp at hv
 |_=>
  refine⟨by simp[Value.cells,PD.cells],λi v' d hv hd=>?_⟩;cases i with
  |zero=>
   simp[Value.cells,PD.cells]at hv hd;subst hv;subst hd
   constructor<;>assumption
  |succ i=>simp[Value.cells]at hv
theorem VR.plain{c:Cx}{v:Value}{p:PD}(h:VR c v p):p.plain=v.oneCell':=by
 cases h with
 |gR v h=>cases v<;>first|rfl|simp[US]at h
 |_=>rfl
theorem aZ.zM{c:Cx}{cs:Jm}{ds:Jk}(h:aZ c cs ds)(hp:ds.all PD.plain=true):∀v∈cs,v.oneCell'=true:=by
 intro v hv;obtain⟨i,hi⟩:=yDi hv;have hlt:i<ds.length:=by rw[<-h.1];exact(yA.1 hi).1
 have h1:=h.2 i v ds[i] hi Ig;rw[<-h1.plain];exact yAn.1 hp _ (yAm hlt)
theorem aZ.take_drop{c:Cx}{cs:Jm}{ds:Jk}(h:aZ c cs ds)(off n:Nat):aZ c ((cs.drop off).take n) ((ds.drop off).take n):=by
 refine⟨by simp[h.1],λi v d hv hd=>?_⟩;rw[yAv]at hv hd;split at hv
 .rename_i hlt;rw[yAJ hlt]at hd;rw[yBh]at hv hd;exact h.2 _ v d hv hd
 .simp at hv
theorem aZ.get{c:Cx}{cs:Jm}{ds:Jk}(h:aZ c cs ds){i:Nat}{d:PD}(hd:ds[i]?=some d):∃v,cs[i]?=some v/\VR c v d:=by
 have hlt:i<cs.length:=by rw[h.1];exact(yA.1 hd).1
 exact⟨cs[i],Ig,h.2 i cs[i] d Ig hd⟩
theorem PB{P:Program}{t:TypeId}{n:Nat}(h:cT P t=some n):∃i,P.info? t=some i/\i.size=n:=by
 unfold cT at h;split at h<;>simp at h;exact⟨_,‹_›,h⟩
theorem oH{P:Program}{w:World}{t:TypeId}{n:Nat}(h:cT P t=some n):(sizeOf t).run P w=.ok n w:=by
 obtain⟨i,h1,h2⟩:=PB h;simp[sizeOf,typeInfo,h1,h2]
theorem PF{P:Program}{w:World}{t:TypeId}{b:Bool}(h:gQ P t=some b):(isAgg t).run P w=.ok b w:=by
 unfold gQ at h;split at h<;>simp at h<;>subst h
 .rename_i hu;simp[isAgg,yAM hu]
 .rename_i hu;simp[isAgg,yAM hu]
 .rename_i d h1 h2 hu;simp only[isAgg,yBb,yAM hu,yBg];rfl
theorem HX{P:Program}{c:Cx}{cs:Jm}{ds:Jk}(h:aZ c cs ds)(h1:∀v∈cs,v.oneCell'=true){t:TypeId}{off:Nat}{p:PD}(hp:oT P t ds off=some p)(w:World) :
  ∃v,(part t cs.toArray off).run P w=.ok v w/\VR c v p:=by
 unfold oT at hp;split at hp
 .rename_i n ha hs;split at hp
  .simp at hp;subst hp;refine⟨.agg ((cs.drop off).take n).toArray,?_,?_⟩
   .simp[part,PF ha,oH hs,List.extract_toArray,List.extract_eq_take_drop]
   .have h2:=h.take_drop off n;exact .agg _ _ h2.1 (λv hv=>h1 v (yBd (yAy hv))) h2.2
  .simp at hp
 .rename_i n ha hs;obtain⟨v,hv,hr⟩:=h.get hp;exact⟨v,by simp[part,PF ha,hv],hr⟩
 .simp at hp
end
section
theorem aCh(l:List UInt8):(ByteArray.mk l.toArray).toList=l:=by rw[ByteArray.toList_eq]
theorem aCg{op:BinOp}{k:IntKind}{x y z:Int}(h:C1 op k x y=some z)(P:Program)(w:World):(Op.intBits op k x y).run P w=.ok (.int k z) w:=by
 cases op<;>simp only[C1,yAb,reduceCtorEq]at h<;>subst h<;>rfl
theorem aJi{op:BinOp}{k:IntKind}{x y:Int}{p:PD}(h:iY op k x y=some p)(hs:op≠.shl/\op≠.shr)(c:Cx)(P:Program)(t:TypeId)(w:World) :
  ∃v,(binOp op t (.int k x) (.int k y)).run P w=.ok v w/\VR c v p:=by
 cases op<;>simp only[iY]at h<;>first
  |(simp at hs;done)
  |(simp at h;subst h;refine⟨_,?_,VR.int _ _⟩;simp[binOp,Op.intArith];done)
  |(simp at h;subst h;refine⟨_,?_,VR.bool _⟩;simp[binOp,Op.intCmp];done)
  |(split at h
    .exact ak
    .rename_i h0;simp at h;subst h;refine⟨_,?_,VR.int _ _⟩;simp[binOp,Op.intDiv,h0])
  |(split at h
    .rename_i z hz;simp at h;subst h;refine⟨_,?_,VR.int _ _⟩;simp only[binOp,ne_eq,yBK,yAN];exact aCg hz P w
    .simp at h)
theorem aCd{op:BinOp}{k k':IntKind}{x y:Int}{p:PD}(h:KF op k x y=some p)(hs:op=.shl\/op=.shr)(c:Cx)(P:Program)(t:TypeId)(w:World) :
  ∃v,(binOp op t (.int k x) (.int k' y)).run P w=.ok v w/\VR c v p:=by
 unfold KF at h;split at h
 .exact ak
 .rename_i h0;rcases hs with rfl|rfl<;>simp at h<;>subst h<;>refine⟨_,?_,VR.int _ _⟩<;>simp[binOp,Op.shift,h0]
theorem aJk(a b:List UInt8):(ByteArray.mk a.toArray)++(ByteArray.mk b.toArray)=ByteArray.mk (a++b).toArray:=by
 apply ByteArray.ext;simp
theorem PH(a:List UInt8):(ByteArray.mk a.toArray).size=a.length:=Gr
theorem aJj{op:BinOp}{x y:Jl}{p:PD}(h:KE op x y=some p)(c:Cx)(P:Program)(t:TypeId)(w:World) :
  ∃v,(binOp op t (.string ⟨x.toArray⟩) (.string ⟨y.toArray⟩)).run P w=.ok v w/\VR c v p:=by
 cases op<;>simp only[KE]at h<;>first
  |(simp at h;done)
  |(split at h
    .rename_i hl;simp at h;subst h;refine⟨_,?_,VR.str _⟩;have:¬((((ByteArray.mk x.toArray).size+(ByteArray.mk y.toArray).size:Nat):Int) > IntKind.i64.max):=by
      rw[PH,PH];simp only[maxLen]at hl;simp[IntKind.max,IntKind.signed,IntKind.bits];omega
     simp only[binOp,Op.stringOp,yAI this,yBo,aJk]
    .simp at h)
  |(simp at h;subst h;refine⟨_,?_,VR.bool _⟩;simp[binOp,Op.stringOp])
section eq
variable{P:Program}{c:Cx}
theorem UR{eq:TypeId->PD->PD->Option Bool}{d:Nat}
  (ih:∀t x y b vx vy (w:World),eq t x y=some b->VR c vx x->VR c vy y->(Op.equalIn d t vx vy).run P w=.ok b w)
  {xs ys:Jm} {px py:Jk} (hx:aZ c xs px) (hx1:∀v∈xs,v.oneCell'=true) (hy:aZ c ys py) (hy1:∀v∈ys,v.oneCell'=true) (w:World) :
  ∀(fs:List Field) (b:Bool),AU eq P px py fs=some b->(Op.eqFields d xs.toArray ys.toArray fs).run P w=.ok b w
 | [],b,h=>by simp[AU]at h;subst h;rfl
 |f::fs,b,h=>by
  unfold AU at h;unfold Op.eqFields;split at h
  .rename_i hn;rw[yAI Gi];exact UR ih hx hx1 hy hy1 w fs b h
  .rename_i hn;rw[yAJ Gi];split at h
   .rename_i a b' ha hb;obtain⟨va,ra,qa⟩:=HX hx hx1 ha w;obtain⟨vb,rb,qb⟩:=HX hy hy1 hb w;split at h
    .rename_i he;have:=ih _ _ _ _ va vb w he qa qb;simp only[yBb,ra,rb,this,yBg];simpa using UR ih hx hx1 hy hy1 w fs b h
    .rename_i he;simp at h;subst h;have:=ih _ _ _ _ va vb w he qa qb;simp[ra,rb,this]
    .exact ak
   .exact ak
theorem aCi{e:TypeId}{eq:PD->PD->Option Bool}{d n:Nat}(hn:cT P e=some n)
  (ih:∀x y b vx vy (w:World),eq x y=some b->VR c vx x->VR c vy y->(Op.equalIn d e vx vy).run P w=.ok b w)
  {xs ys:Jm} {px py:Jk} (hx:aZ c xs px) (hx1:∀v∈xs,v.oneCell'=true) (hy:aZ c ys py) (hy1:∀v∈ys,v.oneCell'=true) (w:World) :
  ∀(m i:Nat) (b:Bool),CV eq P e n px py i m=some b ->
   (forIn (m:=Sem) (List.range' i m) (none,PUnit.unit) (fun(i:Nat) (_:Option Bool×PUnit)=>do
    if !(<-Op.equalIn d e (<-part e xs.toArray (i*n)) (<-part e ys.toArray (i*n)))then
     pure (ForInStep.done (some false,PUnit.unit))
    else do
     pure PUnit.unit
     pure (ForInStep.yield (none,PUnit.unit)))).run P w=.ok (if b then none else some false,PUnit.unit) w
 |0,i,b,h=>by simp[CV]at h;subst h;rfl
 |m+1,i,b,h=>by
  unfold CV at h;split at h
  .rename_i a b' ha hb;obtain⟨va,ra,qa⟩:=HX hx hx1 ha w;obtain⟨vb,rb,qb⟩:=HX hy hy1 hb w;split at h
   .rename_i he;have:=ih _ _ _ va vb w he qa qb;rw[yDs];have r:=aCi hn ih hx hx1 hy hy1 w m (i+1) b h;simp only[List.forIn_cons,yBb,ra,rb,this,yBg,yBP,yAx,yAN,yBo];exact r
   .rename_i he;simp at h;subst h;have:=ih _ _ _ va vb w he qa qb;rw[yDs];simp[ra,rb,this]
   .exact ak
  .exact ak
theorem PI:∀(d k:Nat) (t:TypeId) (x y:PD) (b:Bool) (vx vy:Value) (w:World),mE P d t x y=some b->VR c vx x->VR c vy y ->
  (Op.equalIn (d+k) t vx vy).run P w=.ok b w
 |0,_,_,_,_,_,_,_,_,h,_,_=>by simp[mE]at h
 |d+1,k,t,x,y,b,vx,vy,w,h,hx,hy=>by
  rw[show d+1+k=(d+k)+1 by omega];unfold mE at h;split at h
  .rename_i hu;split at h<;>simp at h
   subst h;rw[hx.AZ,hy.AZ];exact run_equalIn_bool' w _ t _ _ hu
  .rename_i kk hu;split at h<;>simp at h
   obtain⟨rfl,rfl⟩:=h;rw[hx.qV,hy.qV];exact run_equalIn_int w _ t _ kk _ _ hu
  .rename_i hu;split at h<;>simp at h
   subst h;rw[hx.tX,hy.tX,run_equalIn_string w _ t _ _ hu,aCh,aCh]
  .rename_i e hu;split at h<;>simp at h<;>subst h
   .rw[hx.FQ,hy.FQ];simp[Op.equalIn,yAM hu]
   .obtain⟨b,e2,_⟩:=hy.uY;rw[hx.FQ,e2];simp[Op.equalIn,yAM hu]
   .obtain⟨ad,fl,e2,_⟩:=hy.HV;rw[hx.FQ,e2];simp[Op.equalIn,yAM hu]
   .obtain⟨b,e2,_⟩:=hx.uY;rw[hy.FQ,e2];simp[Op.equalIn,yAM hu]
   .obtain⟨ad,fl,e2,_⟩:=hx.HV;rw[hy.FQ,e2];simp[Op.equalIn,yAM hu]
  .rename_i hu;split at h<;>simp at h<;>subst h
   .rw[hx.PJ,hy.PJ];simp[Op.equalIn,yAM hu]
   .obtain⟨_,e2,_⟩:=hy.KJ;rw[hx.PJ,e2];simp[Op.equalIn,yAM hu]
   .obtain⟨_,e2,_⟩:=hx.KJ;rw[hy.PJ,e2];simp[Op.equalIn,yAM hu]
  .rename_i fs hu;split at h
   .rename_i px py;split at h
    .exact ak
    .rename_i hst;obtain⟨xs,rfl,hxs,hx1⟩:=hx.BH;obtain⟨ys,rfl,hys,hy1⟩:=hy.BH;have hfo:P.fieldsOf t=fs:=by simp[Program.fieldsOf,hu]
     rw[run_equalIn_struct w _ t _ _ (by rw[hfo];exact hu) (by simpa using hst),hfo];exact UR (λt x y b vx vy w h hx hy=>PI d k t x y b vx vy w h hx hy) hxs hx1 hys hy1 w fs.toList b h
   .exact ak
  .rename_i len e hu;split at h
   .rename_i px py;split at h
    .rename_i n hn;obtain⟨xs,rfl,hxs,hx1⟩:=hx.BH;obtain⟨ys,rfl,hys,hy1⟩:=hy.BH;have r:=aCi (P:=P) (d:=d+k) hn (λx y b vx vy w h hx hy=>PI d k e x y b vx vy w h hx hy) hxs hx1 hys hy1 w len 0 b h;simp only[Op.equalIn,yBb,yAM hu,oH hn,yBg];rw[Std.Legacy.Range.forIn_eq_forIn_range'];simp only[Std.Legacy.Range.size];rw[show(len-0+1-1)/1=len by simp];refine Eq.trans (yAL (λz=>Result.andThen z _) r) ?_;cases b<;>rfl
    .exact ak
   .exact ak
  .exact ak
end eq
end
section
section
variable{P:Program}{c:Cx}
theorem aCa{d:Nat}{t:TypeId}{x y:PD}{b:Bool}(h:mE P d t x y=some b):(∀v,x≠.gR v)/\∀v,y≠.gR v:=by
 cases d with
 |zero=>cases h
 |succ d=>
  unfold mE at h
  constructor
  .rintro v rfl
   split at h<;>cases h
  .rintro v rfl
   split at h<;>(first|(cases h;done)|(split at h<;>first|(cases h;done)|(rename_i h' ;cases h';done)|contradiction))
theorem aCb{t:TypeId}{x y:PD}{b:Bool}(h:qO P t x y=some b):(∀v,x≠.gR v)/\∀v,y≠.gR v:=by
 unfold qO at h;split at h
 .exact⟨λv e=>Dc,λv e=>Dc⟩
 .exact aCa h
theorem aCc{t:TypeId}{x y:PD}{b:Bool}(h:qO P t x y=some b){vx vy:Value}(hx:VR c vx x)(hy:VR c vy y)(w:World)(op:BinOp)(ox oy:Operand) :
  (Op.equal t vx vy).run P w=.ok b w/\(eqGuard op t ox oy vx vy).run P w=.ok () w:=by
 unfold qO at h;split at h
 .rename_i px py;split at h
  .exact ak
  .rename_i hg;refine⟨PI 12 9988 t _ _ b vx vy w h hx hy,?_⟩;obtain⟨xs,rfl,_⟩:=hx.BH;obtain⟨ys,rfl,_⟩:=hy.BH;exact run_eqGuard_agg w op t ox oy _ _ (by simpa using hg)
 .rename_i hne;refine⟨PI 12 9988 t _ _ b vx vy w h hx hy,?_⟩;obtain⟨q1,q2⟩:=aCa h;cases hx<;>cases hy<;>first
   |exact(hne _ _ rfl rfl).elim
   |exact absurd rfl (q1 _)
   |exact absurd rfl (q2 _)
   |(cases op<;>rfl)
theorem aI5{op:BinOp}{t:TypeId}{x y p:PD}(h:eM P op t x y=some p){vx vy:Value}(hx:VR c vx x)(hy:VR c vy y)(w:World)(ox oy:Operand) :
  ∃v,(do eqGuard op t ox oy vx vy;binOp op t vx vy:Sem Value).run P w=.ok v w/\VR c v p:=by
 unfold eM at h;split at h
 .rename_i k a k' b;have e1:=hx.qV;have e2:=hy.qV;subst e1;subst e2;have hg:(eqGuard op t ox oy (.int k a) (.int k' b)).run P w=.ok () w:=by cases op<;>rfl
  split at h
  .obtain⟨v,r,q⟩:=aCd (k':=k') h (.inl rfl) c P t w;exact tf
  .obtain⟨v,r,q⟩:=aCd (k':=k') h (.inr rfl) c P t w;exact tf
  .rename_i n1 n2;split at h
   .rename_i hk;subst hk;obtain⟨v,r,q⟩:=aJi h ⟨by rintro rfl;exact n1 rfl,by rintro rfl;exact n2 rfl⟩ c P t w;exact tf
   .exact ak
 .rename_i a b;have e1:=hx.tX;have e2:=hy.tX;subst e1;subst e2;have hg:(eqGuard op t ox oy (.string ⟨a.toArray⟩) (.string ⟨b.toArray⟩)).run P w=.ok () w:=by cases op<;>rfl
  obtain⟨v,r,q⟩:=aJj h c P t w;exact tf
 .rename_i n1 n2;split at h
  .split at h
   .rename_i b hb;simp at h;subst h;obtain⟨r1,r2⟩:=aCc hb hx hy w .eql ox oy;refine⟨.bool b,?_,.bool b⟩;simp only[yBb,r2,yBg];have:(binOp .eql t vx vy)=(do pure (.bool (<-Op.equal t vx vy)):Sem Value):=by
     exact jt
    rw[this];simp[r1]
   .exact ak
  .split at h
   .rename_i b hb;simp at h;subst h;obtain⟨r1,r2⟩:=aCc hb hx hy w .neq ox oy;refine⟨.bool (!b),?_,.bool _⟩;simp only[yBb,r2,yBg];have:(binOp .neq t vx vy)=(do pure (.bool (!(<-Op.equal t vx vy))):Sem Value):=by
     exact jt
    rw[this];simp[r1]
   .exact ak
  .exact ak
theorem aCe{v:Value}{a:PD}{b:Bool}(hv:VR c v a)(h:iL a=some b):∃A n cap,v=.slice A n cap/\b=A.isNone:=by
 unfold iL at h;split at h
 .rename_i n xs tok;obtain⟨A,cap,fl,rfl,h1,h2,h3,h4,h5,h6,h7,h8⟩:=hv.pJ;refine⟨A,xs.length,cap,rfl,?_⟩;split at h
  .rename_i hc;simp only[yAb]at h;subst h;have:0<fl.length:=by rw[h4];exact yDd (yDy hc.1) (yDy hc.2)
   obtain⟨ad,rfl,_⟩:=h6 0 fl[0] (by simp[this]);rfl
  .split at h
   .simp only[yAb]at h;subst h;obtain⟨e,_⟩:=h8;exact uw
   .simp only[yAb]at h;subst h;obtain⟨k,m,e⟩:=h8;exact uw
   .simp only[yAb]at h;subst h;obtain⟨a',k,m,e⟩:=h8;exact uw
   .cases h
 .obtain⟨b,cap,rfl,_⟩:=hv.FI;simp only[yAb]at h;subst h;exact⟨_,_,_,rfl,rfl⟩
 .obtain⟨b,cap,rfl,_⟩:=hv.DB;simp only[yAb]at h;subst h;exact⟨_,_,_,rfl,rfl⟩
 .cases h
theorem aCf{t e:TypeId}(hu:P.underlying t=some (.slice e))(A:Option Addr)(n cap:Nat)(w:World):(Op.equal t (.slice A n cap) (.slice none 0 0)).run P w=.ok A.isNone w:=by
 show(Op.equalIn (9999+1) t (.slice A n cap) (.slice none 0 0)).run P w=_
 unfold Op.equalIn;cases A<;>simp[yAM hu]
theorem aI6{op:BinOp}{t:TypeId}{a p:PD}{y:Operand}(h:CY P op t a y=some p){ac:Act}{vx:Value}(hx:VR c vx a)(w:World)(ox:Operand) :
  ∃v,(do eqGuard op t ox y vx (ac.eval y);binOp op t vx (ac.eval y):Sem Value).run P w=.ok v w/\VR c v p:=by
 unfold CY at h;split at h
 .split at h
  .rename_i e hu;split at h
   .rename_i b hb;simp only[yAb]at h;subst h;obtain⟨A,n,cap,rfl,rfl⟩:=aCe hx hb;refine⟨.bool A.isNone,?_,.bool _⟩;have hg:(eqGuard .eql t ox (.const (.slice none 0 0)) (.slice A n cap) (.slice none 0 0)).run P w=.ok () w:=rfl;have hb:(binOp .eql t (.slice A n cap) (.slice none 0 0))=(do pure (.bool (<-Op.equal t (.slice A n cap) (.slice none 0 0))):Sem Value):=rfl;simp only[Act.eval,yBb,hg,hb,yBg,aCf hu,yBo]
   .rename_i b hb;simp only[yAb]at h;subst h;obtain⟨A,n,cap,rfl,rfl⟩:=aCe hx hb;refine⟨.bool (!A.isNone),?_,.bool _⟩;have hg:(eqGuard .neq t ox (.const (.slice none 0 0)) (.slice A n cap) (.slice none 0 0)).run P w=.ok () w:=rfl;have hb:(binOp .neq t (.slice A n cap) (.slice none 0 0))=(do pure (.bool (!(<-Op.equal t (.slice A n cap) (.slice none 0 0)))):Sem Value):=rfl;simp only[Act.eval,yBb,hg,hb,yBg,aCf hu,yBo]
   .cases h
  .cases h
 .cases h
theorem aI7{op:UnOp}{x p:PD}(h:HB op x=some p){vx:Value}(hx:VR c vx x)(w:World):∃v,(Op.unary op vx).run P w=.ok v w/\VR c v p:=by
 unfold HB at h;split at h
 .simp only[yAb]at h;subst h;rw[hx.qV];exact⟨_,rfl,.int _ _⟩
 .rw[hx.qV];split at h
  .rename_i z hz;simp at h;subst h;exact⟨_,aCg hz P w,.int _ _⟩
  .exact ak
 .simp at h;subst h;rw[hx.AZ];exact⟨_,rfl,.bool _⟩
 .exact ak
theorem aI8{s d:TypeId}{x p:PD}(h:KB P s d x=some p){vx:Value}(hx:VR c vx x)(w:World):∃v,(convert s d vx).run P w=.ok v w/\VR c v p:=by
 unfold KB at h;split at h
 .rename_i hs hd;simp at h;subst h;rw[hx.qV];exact⟨_,by simp[convert,yAM hs,yAM hd,Conv.intToInt],.int _ _⟩
 .rename_i hs hd;simp at h;subst h;rw[hx.tX];exact⟨_,by simp[convert,yAM hs,yAM hd],.str _⟩
 .exact ak
theorem FL{x:PD}{i:Nat}(h:gL (some x)=some i){v:Value}(hx:VR c v x):∃k z,v=.int k z/\0<=z/\z.toNat=i:=by
 unfold gL at h;split at h
 .rename_i k z e;simp at e;subst e;split at h
  .simp at h;exact⟨k,z,hx.qV,‹_›,h⟩
  .exact ak
 .exact ak
theorem EY(a:Addr)(i j:Nat):(a.add i).add j=a.add (i+j):=by
 unfold Addr.add
 by_cases hi:i=0<;>by_cases hj:j=0<;>simp[hi,hj,yBW]
theorem UQ{s:TypeId}{fs:Array Field}{fd:Field}{f n:Nat}(hu:P.underlying s=some (.struct fs))(hf:fs[f]?=some fd)(hn:cT P fd.type=some n)(h0:n≠0)(a:Addr)(w:World) :
  (Instr.fieldAt s (.pointer (some a)) f).run P w=.ok (.pointer (some (a.add fd.offset))) w:=by
 simp[Instr.fieldAt,yAM hu,hf,Instr.sureAddr,fieldPlace,oH hn,h0]
theorem aJa{s:TypeId}{x p:PD}{f:Nat}(h:CW P s x f=some p){vx:Value}(hx:VR c vx x)(w:World):∃v,(Instr.fieldAt s vx f).run P w=.ok v w/\VR c v p:=by
 unfold CW at h;split at h
 .rename_i fs hu;split at h
  .rename_i fd hf;split at h
   .rename_i n hn;split at h
    .exact ak
    .rename_i h0;split at h
     .rename_i id off;simp at h;subst h;obtain⟨b,rfl,h1,h2,h3⟩:=hx.uY;refine⟨_,UQ hu hf hn h0 _ w,?_⟩;have:(⟨b,off,none⟩:Addr).add fd.offset=⟨b,off+fd.offset,none⟩:=Cr;rw[this];exact .ptr _ _ b h1 h2 h3
     .rename_i cs off;simp at h;subst h;obtain⟨ad,fl,rfl,h1,h2,h3⟩:=hx.HV;refine⟨_,UQ hu hf hn h0 _ w,?_⟩;rw[EY];exact .fM ad fl cs _ h1.1 h2 h3 h1.2
     .rename_i id ver off;simp at h;subst h;obtain⟨b,rfl,h1⟩:=hx.HP;refine⟨_,UQ hu hf hn h0 _ w,?_⟩;have:(⟨b,off,none⟩:Addr).add fd.offset=⟨b,off+fd.offset,none⟩:=Cr;rw[this];exact .dM _ _ _ b h1
     .exact ak
   .exact ak
  .exact ak
 .exact ak
theorem aJb{t:TypeId}{x p:PD}{f:Nat}(h:HC P t x f=some p){vx:Value}(hx:VR c vx x)(w:World):∃v,(Instr.field t vx f).run P w=.ok v w/\VR c v p:=by
 unfold HC at h;split at h
 .rename_i fs ds hu;split at h
  .rename_i fd hf;obtain⟨cs,rfl,h1,h2⟩:=hx.BH;obtain⟨v,r,q⟩:=HX h1 h2 h w;exact⟨v,by simp[Instr.field,yAM hu,hf,asAgg,r],q⟩
  .exact ak
 .exact ak
theorem UF(size:Nat):∀(xs:List PD),(∀x∈xs,x.cells.length=size)->∀(i:Nat) (p:PD),xs[i]?=some p->∀j,j<size->(xs.flatMap PD.cells)[i*size+j]?=p.cells[j]?
 | [],_,i,p,h,_,_=>Dw
 |x::xs,hx,0,p,h,j,hj=>by
  simp at h;subst h;have:=hx x Ce;simp[yBx,yDf,this,hj]
 |x::xs,hx,i+1,p,h,j,hj=>by
  have hl:=hx x Ce;have r:=UF size xs (λy hy=>hx y Hg) i p Dg j hj;rw[yBx,yBJ (by rw[hl,yBz];omega),hl];rw[show(i+1)*size+j-size=i*size+j by rw[yBz];omega];exact r
theorem aJc{t:TypeId}{x i p:PD}(h:jH P t x i=some p){vx vi:Value}(hx:VR c vx x)(hi:VR c vi i)(w:World):∃v,(Instr.indexAt t vx vi).run P w=.ok v w/\VR c v p:=by
 unfold jH at h;split at h
 .rename_i m len e hm hu;obtain⟨k,z,rfl,h0,rfl⟩:=FL hm hi;split at h
  .rename_i n hn;split at h
   .rename_i hlt;split at h
    .rename_i id off;simp at h;subst h;obtain⟨b,rfl,h1,h2,h3⟩:=hx.uY;refine⟨.pointer (some ⟨b,off+z.toNat*n,none⟩),?_,.ptr _ _ b h1 h2 h3⟩;exact jb
    .rename_i cs off;simp at h;subst h;obtain⟨ad,fl,rfl,h1,h2,h3⟩:=hx.HV;have hz:z<(len:Int):=Cd;refine⟨.pointer (some (ad.add (off+z.toNat*n))),?_,.fM ad fl cs _ h1.1 h2 h3 h1.2⟩;simp[Instr.indexAt,asIntOf,yAM hu,Instr.sureAddr,h0,hz,oH hn,EY]
    .rename_i id ver off;simp at h;subst h;obtain⟨b,rfl,h1⟩:=hx.HP;refine⟨.pointer (some ⟨b,off+z.toNat*n,none⟩),?_,.dM _ _ _ b h1⟩;exact jb
    .exact ak
   .exact ak
  .exact ak
 .rename_i m e hm hu;obtain⟨k,z,rfl,h0,rfl⟩:=FL hm hi;split at h
  .rename_i size xs tok n hn;split at h
   .rename_i hsz;obtain⟨hsz,hn0⟩:=hsz;split at h
    .rename_i q hq;simp at h;subst h;have hsz:n=size:=hsz.resolve_left (λe=>by rw[yAf e]at hq;simp at hq);subst hsz;obtain⟨A,cap,fl,rfl,h1,h2,h3,h4,h5,h6,h7,h8⟩:=hx.pJ;have hlt:z.toNat<xs.length:=(yA.1 hq).1;have hz:z<(xs.length:Int):=Cd;have hql:=h3 q (yAE hq);have hin:z.toNat*n<fl.length:=by
      rw[h4];exact Nat.mul_lt_mul_of_pos_right hlt hn0
     obtain⟨ad,rfl,_,_⟩:=h6 (z.toNat*n) fl[z.toNat*n] (by simp[hin]);refine⟨.pointer (some ((ad.add (z.toNat*n)).add 0)),?_,?_⟩
     .simp[Instr.indexAt,asIntOf,yAM hu,h0,hz,oH hn,Addr.add]
     .have hle:z.toNat*n+n<=fl.length:=by
       rw[h4,<-yBU];exact yBH _ hlt
      refine .fM (ad.add (z.toNat*n)) ((fl.drop (z.toNat*n)).take n) q.cells 0 (by simp[hql];omega) (λv hv=>h5 v (yBd (yAy hv))) ?_ ?_
      .intro j v hv;rw[yAv]at hv;split at hv
       .rw[yBh]at hv;obtain⟨KX,e',h9,h10⟩:=h6 _ v hv;cases e';rw[EY];exact⟨h9,h10⟩
       .simp at hv
      .intro j v d hv hd;rw[yAv]at hv;split at hv
       .rename_i hj;rw[yBh]at hv;exact h7 _ v d hv (by rw[UF n xs h3 _ _ hq j hj];exact hd)
       .simp at hv
    .exact ak
   .exact ak
  .rename_i id off m' size n hn;split at h
   .rename_i hc;obtain⟨rfl,hlt⟩:=hc;simp at h;subst h;obtain⟨b,cap,rfl,h1,h2,h3,_,_⟩:=hx.FI;refine⟨.pointer (some ⟨b,off+z.toNat*n,none⟩),?_,.ptr _ _ b h1 h2 h3⟩;exact jj
   .exact ak
  .rename_i id ver off m' size n hn;split at h
   .rename_i hc;obtain⟨rfl,hlt⟩:=hc;simp at h;subst h;obtain⟨b,cap,rfl,h1,_,_⟩:=hx.DB;refine⟨.pointer (some ⟨b,off+z.toNat*n,none⟩),?_,.dM _ _ _ b ⟨h1.1,λe sz v' cs hs=>⟨(h1.2 e sz v' cs hs).1,λhv=>by
     obtain⟨_,C,hr,_⟩:=(h1.2 e sz v' cs hs).2 hv;exact⟨C,hr⟩⟩⟩⟩
    exact jj
   .exact ak
  .exact ak
 .exact ak
end
end
section
theorem aJh(s:List UInt8)(l h:Nat):(ByteArray.mk s.toArray).extract l h=⟨((s.drop l).take (h-l)).toArray⟩:=by
 apply ByteArray.ext;simp[ByteArray.data_extract,List.extract_toArray,List.extract_eq_take_drop]
theorem FM{size:Nat}:∀(xs:List PD),(∀x∈xs,x.cells.length=size)->(xs.flatMap PD.cells).length=xs.length*size
 | [],_=>Ce
 |x::xs,h=>by
  rw[yBx,yAa,h x Ce,FM xs (λy hy=>h y Hg),yAT,yBz];omega
theorem aB6{size:Nat}:∀(xs:List PD) (l:Nat),(∀x∈xs,x.cells.length=size)->(xs.drop l).flatMap PD.cells=(xs.flatMap PD.cells).drop (l*size)
 |xs,0,_=>Ce
 | [],l+1,_=>Ce
 |x::xs,l+1,h=>by
  have hx:=h x Ce;have e1:x.cells.drop ((l+1)*size)=[]:=yAs (by rw[hx,yBz];omega);have e2:(l+1)*size-size=l*size:=by rw[yBz];omega
  rw[yEh,aB6 xs l (λy hy=>h y Hg),yBx,yDN,hx,e1,e2,yAW]
theorem aB7{size:Nat}:∀(xs:List PD) (k:Nat),(∀x∈xs,x.cells.length=size)->(xs.take k).flatMap PD.cells=(xs.flatMap PD.cells).take (k*size)
 |xs,0,_=>Ce
 | [],k+1,_=>Ce
 |x::xs,k+1,h=>by
  have hx:=h x Ce;have e1:x.cells.take ((k+1)*size)=x.cells:=yAz (by rw[hx,yBz];omega);have e2:(k+1)*size-size=k*size:=by rw[yBz];omega
  rw[yDl,yBx,aB7 xs k (λy hy=>h y Hg),yBx,List.take_append,hx,e1,e2]
section
variable{P:Program}{c:Cx}
theorem aJd{t:TypeId}{x i p:PD}(h:AX P t x i=some p){vx vi:Value}(hx:VR c vx x)(hi:VR c vi i)(w:World):∃v,(Instr.index t vx vi).run P w=.ok v w/\VR c v p:=by
 unfold AX at h;split at h
 .rename_i m len e ds hm hu;obtain⟨k,z,rfl,h0,rfl⟩:=FL hm hi;split at h
  .rename_i n hn;split at h
   .rename_i hlt;obtain⟨cs,rfl,h1,h2⟩:=hx.BH;obtain⟨v,r,q⟩:=HX h1 h2 h w;have hz:z<(len:Int):=Cd;exact⟨v,by simp[Instr.index,asIntOf,yAM hu,h0,hz,oH hn,r],q⟩
   .exact ak
  .exact ak
 .rename_i m s hm hu;obtain⟨k,z,rfl,h0,rfl⟩:=FL hm hi;split at h
  .rename_i b hb;simp only[yAb]at h;subst h;rw[hx.tX];refine⟨.int .u8 b.toNat,?_,.int _ _⟩;have hlt:z.toNat<s.length:=(yA.1 hb).1;have:(ByteArray.mk s.toArray)[z.toNat]?=some b:=by
    rw[getElem?_pos _ _ (by simpa [ByteArray.size]using hlt)];have hg:s[z.toNat]=b:=(yA.1 hb).2;simp only[ByteArray.getElem_eq_getElem_data,yAb];simpa using hg
   simp[Instr.index,asIntOf,yAM hu,h0,this]
  .exact ak
 .exact ak
theorem HY{a:Act}{fr:Jk}(hf:FR c a fr){x:Operand}{m:Nat}(h:gL (bH fr x)=some m):∃k z,a.eval x=.int k z/\0<=z/\z.toNat=m:=by
 cases he:bH fr x with
 |none=>simp[he,gL]at h
 |some p=>
  rw[he]at h;exact FL h (eW hf he)
theorem K8{a:Act}{fr:Jk}(hf:FR c a fr){n cap l h:Nat}{lo hi:Option Operand}(hb:kT n (lo.map (bH fr)) (hi.map (bH fr))=some (l,h))(hc:n<=cap)(isS:Bool)(w:World) :
  l<=h/\h<=n/\(Instr.sliceBounds isS n cap (lo.map a.eval) (hi.map a.eval) none).run P w=.ok (l,h,cap) w:=by
 unfold kT at hb;split at hb
 .rename_i h' l' h1 h2;split at hb
  .rename_i hle;simp only[yAb,yAc]at hb;obtain⟨rfl,rfl⟩:=hb;refine⟨hle.1,hle.2,?_⟩;cases hi with
   |none=>
    simp at h1;subst h1;cases lo with
    |none=>simp at h2;subst h2;simp[Instr.sliceBounds]
    |some lo=>
     obtain⟨k,z,e,h0,rfl⟩:=HY hf (by simpa using h2);have hz:z<=(n:Int):=Cd;simp[Instr.sliceBounds,e,yCy (P:=P) (w:=w) k z _ _ h0 hz]
   |some hi=>
    obtain⟨k',z',e',h0',rfl⟩:=HY hf Ei;have FP:z'<=(cap:Int):=Cd;cases lo with
    |none=>simp at h2;subst h2;simp[Instr.sliceBounds,e',yCy (P:=P) (w:=w) k' z' _ _ h0' FP]
    |some lo=>
     obtain⟨k,z,e,h0,rfl⟩:=HY hf (by simpa using h2);have hz:z<=(z'.toNat:Int):=Cd;simp[Instr.sliceBounds,e,e',yCy (P:=P) (w:=w) k' z' _ _ h0' FP,yCy (P:=P) (w:=w) k z _ _ h0 hz]
  .simp at hb
 .simp at hb
theorem aB8{a:Act}{fr:Jk}(hf:FR c a fr){n cap l h m:Nat}{lo:Option Operand}{hi mx:Operand}(hb:kT n (lo.map (bH fr)) ((some hi).map (bH fr))=some (l,h))(hm:gL (bH fr mx)=some m)
  (h1:h<=m) (h2:m<=n) (hc:n<=cap) (isS:Bool) (w:World) :
  l<=h/\h<=n/\(Instr.sliceBounds isS n cap (lo.map a.eval) (some (a.eval hi)) (some (a.eval mx))).run P w=.ok (l,h,m) w:=by
 obtain⟨km,zm,em,hm0,rfl⟩:=HY hf hm;unfold kT at hb;split at hb
 .rename_i h' l' h3 h4;split at hb
  .rename_i hle;simp only[yAb,yAc]at hb;obtain⟨rfl,rfl⟩:=hb;refine⟨hle.1,hle.2,?_⟩;obtain⟨k',z',e',h0',rfl⟩:=HY hf Hz;have hzm:zm<=(cap:Int):=Cd;have FP:z'<=(zm.toNat:Int):=Cd;cases lo with
   |none=>simp at h4;subst h4;simp[Instr.sliceBounds,e',em,yCy (P:=P) (w:=w) km zm _ _ hm0 hzm,yCy (P:=P) (w:=w) k' z' _ _ h0' FP]
   |some lo=>
    obtain⟨k,z,e,h0,rfl⟩:=HY hf (by simpa using h4);have l6:z<=(z'.toNat:Int):=Cd;simp[Instr.sliceBounds,e,e',em,yCy (P:=P) (w:=w) km zm _ _ hm0 hzm,yCy (P:=P) (w:=w) k' z' _ _ h0' FP,yCy (P:=P) (w:=w) k z _ _ h0 l6]
  .simp at hb
 .simp at hb
theorem aB9{A:Option Addr}{cap size n l h m:Nat}{xs:Jk}{fl:Jm}{tok:Tok}(hn:xs.length=0\/n=size)(hlh:l<=h)(hhx:h<=xs.length)(hhm:h<=m)(hmc:m<=cap)(hcm:cap<=maxLen)
  (h3:∀x∈xs,x.cells.length=size) (h4:fl.length=xs.length*size) (h5:∀v∈fl,v.oneCell'=true)
  (h6:∀(j:Nat) (v:Value),fl[j]?=some v->∃ad,A=some ad/\c.w.cell? (ad.add j)=some v/\c.av (ad.add j))
  (h7:∀(j:Nat) (v:Value) (d:PD),fl[j]?=some v->(xs.flatMap PD.cells)[j]?=some d->VR c v d)
  (ht:sH c size (h-l) (m-l) (.slice (if m=l then A else A.map (·.add (l*n))) (h-l) (m-l)) tok) :
  VR c (.slice (if m=l then A else A.map (·.add (l*n))) (h-l) (m-l)) (.slice size ((xs.drop l).take (h-l)) tok):=by
 have hxs:∀x∈(xs.drop l).take (h-l),x.cells.length=size:=λx hx=>h3 x (yBd (yAy hx))
 have hlen:((xs.drop l).take (h-l)).length=h-l:=Co;have hdl:∀x∈xs.drop l,x.cells.length=size:=λx hx=>h3 x (yBd hx)
 have hfl:((fl.drop (l*size)).take ((h-l)*size)).length=(h-l)*size:=by
  have:l*size+(h-l)*size<=fl.length:=by
   rw[h4,<-yBz];exact yBH _ Cd
  simp;omega
 refine .slice _ _ _ size _ tok ((fl.drop (l*size)).take ((h-l)*size)) hlen.symm Cd Cd hxs hfl
  (λv hv=>h5 v (yBd (yAy hv))) ?_ ?_ ht
 .intro j v hv;have hj:j<(h-l)*size:=by rw[<-hfl];exact(yA.1 hv).1
  rw[yAv,yAJ hj,yBh]at hv;obtain⟨ad,rfl,h9,h10⟩:=h6 _ v hv;have hpos:0<h-l:=by
   rcases yEc (h-l)with e|e
   .rw[e]at hj;simp at hj
   .exact e
  have hne:¬m=l:=Cd;have hns:n=size:=hn.resolve_left Cd;subst hns;rw[yAI hne];exact⟨_,rfl,by rw[EY];exact h9,by rw[EY];exact h10⟩
 .intro j v d hv hd;have hj:j<(h-l)*size:=by rw[<-hfl];exact(yA.1 hv).1
  rw[yAv,yAJ hj,yBh]at hv;rw[aB7 _ _ hdl,aB6 _ _ h3,yAv,yAJ hj,yBh]at hd;exact h7 _ v d hv hd
theorem aI9{a:Act}{fr:Jk}(hf:FR c a fr){t:TypeId}{x p:PD}{lo hi mx:Option Operand}
  (h:kQ P t x (lo.map (bH fr)) (hi.map (bH fr)) (mx.map (bH fr))=some p) {vx:Value} (hx:VR c vx x) (w:World) :
  ∃v,(Instr.sliceAt t vx (lo.map a.eval) (hi.map a.eval) (mx.map a.eval)).run P w=.ok v w/\VR c v p:=by
 unfold kQ at h;split at h
 .rename_i s hu;split at h
  .exact ak
  .rename_i hmx;have BI:mx=none:=Fj;subst BI;split at h
   .rename_i l hh hb;simp only[yAb]at h;subst h;rw[hx.tX];have hz:(ByteArray.mk s.toArray).size=s.length:=PH s;obtain⟨h1,h2,h3⟩:=K8 (P:=P) hf hb (yAk _) false w;refine⟨.string ⟨((s.drop l).take (hh-l)).toArray⟩,?_,.str _⟩;simp[Instr.sliceAt,Instr.slice,yAM hu,hz,h3,aJh]
   .exact ak
 .rename_i e size xs tok hu;split at h
  .rename_i n l hh hn hb;split at h
   .rename_i hsz;obtain⟨A,cap,fl,rfl,h1,h2,h3,h4,h5,h6,h7,h8⟩:=hx.pJ;split at h
    ·
     rename_i hmx;have BI:mx=none:=Fj;subst BI;simp only[yAb]at h;subst h;obtain⟨b1,b2,b3⟩:=K8 (P:=P) hf hb h1 true w;refine⟨_,?_,aB9 (n:=n) (m:=cap) hsz b1 b2 Cd (yAk _) h2 h3 h4 h5 h6 h7 ?_⟩
     .exact sy
     .by_cases hhe:hh=xs.length
      .rw[yAJ hhe];cases tok with
       |any=>trivial
       |full=>simp only[sH]at h8 ⊢;omega
       |nil=>trivial
       |j4=>trivial
       |kW=>trivial
       |own id=>
        by_cases hl0:l=0
        .subst hl0;simp only[↓reduceIte];have:(if cap=0 then A else A.map (·.add (0*n)))=A:=by
          split
          .rfl
          .cases A<;>simp[Addr.add]
         rw[this,hhe];simpa using h8
        .simp only[hl0,yAN];trivial
      .rw[yAI hhe];trivial
    .rename_i m hmx;split at h
     .rename_i K9 m' hhi hm;split at h
      .rename_i hle;simp only[yAb]at h;subst h;cases mx with
       |none=>simp at hmx
       |some mx=>
        cases hi with
        |none=>simp at hhi
        |some hi=>
         simp at hmx;subst hmx;obtain⟨b1,b2,b3⟩:=aB8 (P:=P) hf hb hm hle.1 hle.2 h1 true w;refine⟨_,?_,aB9 (n:=n) (m:=m') hsz b1 b2 hle.1 Cd h2 h3 h4 h5 h6 h7 ?_⟩
         .exact sy
         .by_cases hme:m'=hh
          .rw[yAJ hme];simp only[sH];omega
          .rw[yAI hme];trivial
      .exact ak
     .exact ak
   .exact ak
  .exact ak
 .rename_i e id off m size hu;split at h
  .rename_i n l hh hn hb hmx;split at h
   .rename_i hc;obtain⟨rfl,hl⟩:=hc;simp only[yAb]at h;subst h;obtain⟨b,cap,rfl,hd,hp,hr,h1,h2⟩:=hx.FI;have BI:mx=none:=Fj;subst BI;obtain⟨b1,b2,b3⟩:=K8 (P:=P) hf hb h1 true w;refine⟨.slice (some ⟨b,off+l*n,none⟩) (hh-l) (cap-l),?_,.eD _ _ _ _ _ b hd hp hr Cd Cd⟩;exact fk
   .exact ak
  .exact ak
 .rename_i e id ver off m size hu;split at h
  .rename_i n l hh hn hb;split at h
   .rename_i hc;subst hc;obtain⟨b,cap,rfl,hp,h1,h2⟩:=hx.DB;split at h
    .rename_i hmx;have BI:mx=none:=Fj;subst BI;obtain⟨b1,b2,b3⟩:=K8 (P:=P) hf hb h1 true w;split at h
     .rename_i hl;simp only[yAb]at h;subst h;refine⟨.slice (some ⟨b,off+l*n,none⟩) (hh-l) (cap-l),?_,.aP _ _ _ _ _ _ b ⟨hp.1,λe sz v' cs hs=>⟨(hp.2 e sz v' cs hs).1,λhv=>?_⟩⟩ Cd Cd⟩
      .exact fk
      .obtain⟨q1,C,q2,q3⟩:=(hp.2 e sz v' cs hs).2 hv;refine⟨q1,C,q2,?_⟩;rw[<-q3,Nat.sub_mul,yBW]
       congr 1
       have:l*n<=cap*n:=yBH _ Cd;omega
     .rename_i hl;simp only[yAb]at h;subst h;have hlh:hh-l=0:=Cd;refine⟨.slice (if cap=l then(some ⟨b,off,none⟩:Option Addr)else(some ⟨b,off,none⟩:Option Addr).map (·.add (l*n))) (hh-l) (cap-l),?_,?_⟩
      .simp only[Instr.sliceAt,Instr.slice,yBb,yAM hu,yBg,yDH,b3,oH hn,yBo]
      .rw[hlh];exact .slice _ 0 _ n [] .any [] rfl (yAF _) Cd Ce Ce Ce Ce Ce trivial
    .rename_i mv hmx;split at h
     .rename_i K9 k hhi hk;split at h
      .rename_i hc;obtain⟨rfl,rfl⟩:=hc;simp only[yAb]at h;subst h;cases mx with
       |none=>simp at hmx
       |some mx=>
        cases hi with
        |none=>simp at hhi
        |some hi=>
         simp at hmx;subst hmx;have hlm:l<=m:=by
          unfold kT at hb;split at hb
          .split at hb
           .simp only[yAb,yAc]at hb;omega
           .cases hb
          .cases hb
         obtain⟨b1,b2,b3⟩:=aB8 (P:=P) hf hb hk (yAk _) hlm h1 true w;refine⟨.slice (some ⟨b,off,none⟩) (l-l) (l-l),?_,?_⟩
         .exact sy
         .rw[yCk];exact .slice _ 0 0 n [] .full [] rfl (yAF _) (yAF _) Ce Ce Ce Ce Ce rfl
      .exact ak
     .exact ak
   .exact ak
  .exact ak
 .rename_i len e id off hu;split at h
  .rename_i n l hh hn hb hmx;split at h
   .rename_i hc;obtain⟨hlen,hl⟩:=hc;simp only[yAb]at h;subst h;obtain⟨b,rfl,hd,hp,hr⟩:=hx.uY;have BI:mx=none:=Fj;subst BI;obtain⟨b1,b2,b3⟩:=K8 (P:=P) hf hb (yAk _) false w;have hml:len<=maxLen:=yAQ hlen (by unfold maxLen;decide);refine⟨.slice (some ⟨b,off+l*n,none⟩) (hh-l) (len-l),?_,.eD _ _ _ _ _ b hd hp hr Cd Cd⟩;have:(if len=l then(⟨b,off,none⟩:Addr)else(⟨b,off,none⟩:Addr).add (l*n))=⟨b,off+l*n,none⟩:=by
     split
     .have:l=0:=by omega
      subst this;simp
     .simp[Addr.add]
    simp[Instr.sliceAt,Instr.sureAddr,yAM hu,b3,oH hn,this]
   .exact ak
  .exact ak
 .exact ak
end
end
section
section
variable{P:Program}{c:Cx}
theorem aB4(off:Nat):∀(l:List Value) (k:Nat) (cells:Array Value),off+k+l.length<=cells.size ->
  ((l.zipIdx k).foldl (fun(cs:Array Value) (x:Value×Nat)=>cs.setIfInBounds (off+x.2) x.1) cells).toList=cells.toList.take (off+k)++l++cells.toList.drop (off+k+l.length)
 | [],k,cells,_=>Ce
 |v::l,k,cells,h=>by
  simp only[yAT]at h;rw[List.zipIdx_cons,yDp,aB4 off l (k+1) _ Co];simp only[yEa,yAT];have e1:(cells.toList.set (off+k) v).take (off+(k+1))=cells.toList.take (off+k)++[v]:=by
   have hlt:off+k<cells.toList.length:=Co;rw[show off+(k+1)=(off+k)+1 by omega,yBI (by simpa using hlt)]
   congr 1
   .rw[List.take_set];rw[List.set_eq_of_length_le Co]
   .simp
  have e2:(cells.toList.set (off+k) v).drop (off+(k+1)+l.length)=cells.toList.drop (off+k+(l.length+1)):=by
   rw[List.drop_set_of_lt Cd]
   congr 1
   omega
  rw[e1,e2];simp
theorem UO{cells:Jm}{z:Jk}(hz:aZ c cells z){v:Value}{p:PD}(hv:VR c v p)(off:Nat)(hle:off+p.cells.length<=z.length) :
  aZ c (cells.take off++v.cells.toList++cells.drop (off+v.cells.toList.length)) (dL z off p.cells):=by
 have hc:=hv.cells;have hl:v.cells.toList.length=p.cells.length:=hc.1;have h0:cells.length=z.length:=hz.1;refine⟨by simp[dL,hl,h0],λi u d hu hd=>?_⟩;unfold dL at hd;rw[yAi]at hu hd;rw[yDf]at hu hd;simp only[yAt]at hu hd
 by_cases h1:i<min off cells.length
 .rw[yAJ h1]at hu;rw[yAJ Cd]at hd;rw[yAv,yAJ Cd]at hu hd;exact hz.2 i u d hu hd
 .rw[yAI h1]at hu;rw[yAI Cd]at hd;rw[yDf]at hu hd;have hm:min off cells.length=off:=Cd;have hm':min off z.length=off:=Cd;rw[hm]at hu;rw[hm']at hd
  by_cases h2:i-off<p.cells.length
  .rw[yAJ Cd]at hu;rw[yAJ h2]at hd;exact hc.2 _ u d hu hd
  .rw[yAI Cd]at hu;rw[yAI h2]at hd;rw[yBh]at hu hd;rw[hl]at hu;exact hz.2 _ u d hu hd
theorem O9{cells:Jm}(h:∀v∈cells,v.oneCell'=true){new:Jm}(hn:∀v∈new,v.oneCell'=true)(off n:Nat):∀v∈cells.take off++new++cells.drop n,v.oneCell'=true:=by
 intro v hv;simp only[yBr]at hv;rcases hv with(h1|h1)|h1
 .exact h v (yAy h1)
 .exact hn v h1
 .exact h v (yBd h1)
theorem PC{place:Nat->Option (Nat×Nat)}:∀(parts:List (Nat×PD)) (vparts:List (Nat×Value)) (z:List PD) (cells:Array Value) (cs:List PD),
  vparts.length=parts.length->(∀(i:Nat) (jv:Nat×Value) (jp:Nat×PD),vparts[i]?=some jv->parts[i]?=some jp->jv.1=jp.1/\VR c jv.2 jp.2) ->
  aZ c cells.toList z->(∀v∈cells.toList,v.oneCell'=true)->zI place z parts=some cs ->
  ∃cells',Instr.fill place cells vparts=some cells'/\aZ c cells'.toList cs/\∀v∈cells'.toList,v.oneCell'=true
 | [],[],z,cells,cs,_,_,hz,h1,h=>by simp[zI]at h;subst h;exact⟨cells,rfl,hz,h1⟩
 | [],_::_,_,_,_,hl,_,_,_,_=>by simp at hl
 |_::_,[],_,_,_,hl,_,_,_,_=>by simp at hl
 |(i,p)::parts,(i',v)::vparts,z,cells,cs,hl,hp,hz,h1,h=>by
  obtain⟨e,hv⟩:=hp 0 (i',v) (i,p) rfl rfl;simp only at e hv;subst e;unfold zI at h;unfold Instr.fill;cases hpl:place i' with
  |none=>simp[hpl]at h
  |some on=>
   obtain⟨off,n⟩:=on;simp only[hpl]at h ⊢;have hcl:v.cells.size=p.cells.length:=by have:=hv.cells.1;simpa using this
   have hzl:cells.size=z.length:=by have:=hz.1;simpa using this
   split at h
   .exact ak
   .rename_i hn;have y9:¬p.cells.length≠n:=λq=>hn (.inl q)
    have hn2:¬off+p.cells.length > z.length:=λq=>hn (.inr (.inl q))
    have hn3:p.cells.all PD.plain=true:=by
     cases hq:p.cells.all PD.plain with
     |true=>rfl
     |false=>exact(hn (.inr (.inr hq))).elim
    have sI:=aZ.zM hv.cells hn3;have hcond:¬(decide (v.cells.size≠n)||decide (off+v.cells.size > cells.size))=true:=by
     rw[hcl,hzl];simp only[yBv,yCa]
     rintro(q|q)
     .exact y9 q
     .exact hn2 q
    rw[yAI hcond];have hle:off+p.cells.length<=z.length:=Cd;have hfold:(v.cells.zipIdx.foldl (λcs (c,j)=>cs.setIfInBounds (off+j) c) cells).toList=cells.toList.take off++v.cells.toList++cells.toList.drop (off+v.cells.toList.length):=by
     rw[<-Array.foldl_toList,Array.toList_zipIdx];have:=aB4 off v.cells.toList 0 cells Co;exact cv
    refine PC parts vparts _ _ cs Ez (λi jv jp a b=>hp (i+1) jv jp Fh Fi) ?_ ?_ h
    .rw[hfold];exact UO hz hv off hle
    .rw[hfold];exact O9 h1 sI off _
theorem FK{t:TypeId}{p:PD}(h:fQ P t=some p):∃v i,P.info? t=some i/\i.zero=some v/\VR c v p:=by
 unfold fQ at h;split at h
 .rename_i i hi;split at h
  .rename_i z hz;exact⟨z,i,hi,hz,UN h⟩
  .exact ak
 .exact ak
theorem aB5:∀ {fs:List Field} {pl:List (Nat×Nat)},HF P fs=some pl->fs.mapM (λf=>(P.info? f.type).map λi=>(f.offset,i.size))=some pl
 | [],pl,h=>by simp[HF]at h;subst h;rfl
 |f::fs,pl,h=>by
  unfold HF at h;split at h
  .rename_i n ps hn hp;simp only[yAb]at h;subst h;obtain⟨i,hi,hs⟩:=PB hn;simp[List.mapM_cons,aB5 hp,hi,hs]
  .exact ak
theorem aJf{t:TypeId}{parts:List (Nat×PD)}{vparts:List (Nat×Value)}{p:PD}(h:E7 P t parts=some p)(hl:vparts.length=parts.length)
  (hp:∀(i:Nat) (jv:Nat×Value) (jp:Nat×PD),vparts[i]?=some jv->parts[i]?=some jp->jv.1=jp.1/\VR c jv.2 jp.2) (w:World) :
  ∃v,(Instr.build t vparts.toArray).run P w=.ok v w/\VR c v p:=by
 unfold E7 at h;split at h
 .rename_i z hz;obtain⟨zv,i,hi,hzv,hzr⟩:=FK (c:=c) hz;obtain⟨cs,rfl,hcs,eQ⟩:=hzr.BH;split at h
  .rename_i fs hu;split at h
   .rename_i pl hpl;split at h
    .rename_i out ho;simp only[yAb]at h;subst h;obtain⟨cells',h1,h2,h3⟩:=PC parts vparts z cs.toArray out hl hp (by simpa using hcs) (by simpa using eQ) ho;refine⟨.agg cells',run_build w t _ cells' ?_,?_⟩
     .simp only[Program.built,hi,hu,hzv,aB5 hpl,Value.cells];simpa using h1
     .exact Bg
    .exact ak
   .exact ak
  .rename_i k e hu;split at h
   .rename_i n hn;split at h
    .rename_i out ho;simp only[yAb]at h;subst h;obtain⟨cells',h1,h2,h3⟩:=PC parts vparts z cs.toArray out hl hp (by simpa using hcs) (by simpa using eQ) ho;obtain⟨ie,hie,hsz⟩:=PB hn;subst hsz;refine⟨.agg cells',run_build w t _ cells' ?_,?_⟩
     .simp only[Program.built,hi,hu,hzv,hie,Value.cells];simpa using h1
     .exact Bg
    .exact ak
   .exact ak
  .exact ak
 .exact ak
theorem O6{a:Act}{fr:Jk}(hf:FR c a fr):∀ {parts:List (Nat×Operand)} {ps:List (Nat×PD)},rH fr parts=some ps ->
  (parts.map λq=>(q.1,a.eval q.2)).length=ps.length/\∀(i:Nat) (jv:Nat×Value) (jp:Nat×PD),(parts.map λq=>(q.1,a.eval q.2))[i]?=some jv->ps[i]?=some jp->jv.1=jp.1/\VR c jv.2 jp.2
 | [],ps,h=>by simp[rH]at h;subst h;simp
 |(j,x)::parts,ps,h=>by
  unfold rH at h;split at h
  .rename_i p qs h1 h2;simp only[yAb]at h;subst h;obtain⟨a1,a2⟩:=O6 hf h2;refine⟨by simpa using a1,λi jv jp hv hp=>?_⟩;cases i with
   |zero=>simp at hv hp;subst hv;subst hp;exact⟨rfl,eW hf h1⟩
   |succ i=>exact a2 i jv jp (by simpa using hv) Es
  .exact ak
theorem UP(lt:Bool)(w:World):∀(vs:List Value) (x:PD) (r:List PD) (p:PD) (vx:Value),FC lt x r=some p->VR c vx x->aZ c vs r ->
  ∃v,((vs.foldlM (if lt then Builtin.min2 else Builtin.max2) vx).run P w=.ok v w)/\VR c v p
 | [],x,[],p,vx,h,hx,_=>by
   unfold FC at h;split at h
   .simp only[yAb]at h;subst h;exact⟨vx,Ce,hx⟩
   .rename_i e;simp at e
   .exact ak
 | [],_,_::_,_,_,_,_,hl=>by have:=hl.1;simp at this
 |_::_,_,[],_,_,_,_,hl=>by have:=hl.1;simp at this
 |v::vs,x,y::r,p,vx,h,hx,hl=>by
  unfold FC at h;split at h
  .rename_i e;simp at e
  .rename_i k z k' z' r' e;simp at e;obtain⟨e1,e2⟩:=e;subst e1;subst e2;have hv:=hl.2 0 v _ rfl rfl;have h0:=hx.qV;have h1:=hv.qV;subst h0;subst h1;have htl:aZ c vs r:=⟨by have:=hl.1;simpa using this,λi u d a b=>hl.2 (i+1) u d Fh Fi⟩;obtain⟨v,q1,q2⟩:=UP lt w vs _ r p _ h (VR.int _ _) htl;refine⟨v,?_,q2⟩;cases lt<;>simpa [List.foldlM_cons,Builtin.min2,Builtin.max2]using q1
  .exact ak
theorem aJg{b:Builtin}{ts:Array TypeId}{args:Jk}{vargs:Jm}{p:PD}(h:gF P b ts args=some p)(ha:aZ c vargs args)(ty:TypeId)(cs:Array Bool)(w:World) :
  ∃v,(builtin b ts ty cs vargs.toArray).run P w=.ok (.value v) w/\VR c v p:=by
 unfold gF at h;split at h
 .split at h
  .rename_i t ht;split at h
   .rename_i s r hu;simp only[yAb]at h;subst h;obtain⟨v,hv,hr⟩:=ha.get (i:=0) (d:=.str s) rfl;rw[hr.tX]at hv;refine⟨.int .i64 s.length,?_,.int _ _⟩;simp[builtin,Builtin.len_,ht,hv,yAM hu,goInt,PH]
   .rename_i n e p0 r hu;simp only[yAb]at h;subst h;obtain⟨v,hv,hr⟩:=ha.get (i:=0) (d:=p0) rfl;exact jw
   .rename_i e sz xs tok r hu;simp only[yAb]at h;subst h;obtain⟨v,hv,hr⟩:=ha.get (i:=0) (d:=.slice sz xs tok) rfl;obtain⟨A,cap,fl,rfl,_⟩:=hr.pJ;refine⟨.int .i64 xs.length,?_,.int _ _⟩;simp[builtin,Builtin.len_,ht,hv,yAM hu,goInt]
   .rename_i e id off n size r hu;simp only[yAb]at h;subst h;obtain⟨v,hv,hr⟩:=ha.get (i:=0) (d:=.eD id off n size) rfl;obtain⟨b,cap,rfl,_⟩:=hr.FI;exact jw
   .rename_i e id ver off n size r hu;simp only[yAb]at h;subst h;obtain⟨v,hv,hr⟩:=ha.get (i:=0) (d:=.aP id ver off n size) rfl;obtain⟨b,cap,rfl,_⟩:=hr.DB;exact jw
   .exact ak
  .exact ak
 .split at h
  .rename_i x r;cases vargs with
   |nil=>have:=ha.1;simp at this
   |cons v vs=>
    have htl:aZ c vs r:=⟨by have:=ha.1;simpa using this,λi u d a b=>ha.2 (i+1) u d Fh Fi⟩;obtain⟨v',q1,q2⟩:=UP (P:=P) true w vs x r p v h (ha.2 0 v x rfl rfl) htl;exact⟨v',by simp at q1;simp[builtin,Builtin.min_,q1],q2⟩
  .exact ak
 .split at h
  .rename_i x r;cases vargs with
   |nil=>have:=ha.1;simp at this
   |cons v vs=>
    have htl:aZ c vs r:=⟨by have:=ha.1;simpa using this,λi u d a b=>ha.2 (i+1) u d Fh Fi⟩;obtain⟨v',q1,q2⟩:=UP (P:=P) false w vs x r p v h (ha.2 0 v x rfl rfl) htl;exact⟨v',by simp at q1;simp[builtin,Builtin.max_,q1],q2⟩
  .exact ak
 .split at h
  .rename_i t ht;split at h
   .rename_i e sz xs r hu;simp only[yAb]at h;subst h;obtain⟨v,hv,hr⟩:=ha.get (i:=0) (d:=.slice sz xs .full) rfl;obtain⟨A,cap,fl,rfl,a1,a2,a3,a4,a5,a6,a7,a8⟩:=hr.pJ;have hc:xs.length=cap:=by simp only[sH]at a8;omega
    refine⟨.int .i64 xs.length,?_,.int _ _⟩;simp[builtin,Builtin.cap_,ht,hv,yAM hu,goInt,hc]
   .exact ak
  .exact ak
 .exact ak
end
end
section
section
variable{P:Program}{c:Cx}
theorem aZ.append{c:Cx}{a b:Jm}{x y:Jk}(h:aZ c a x)(k:aZ c b y):aZ c (a++b) (x++y):=by
 refine⟨by simp[h.1,k.1],λi v d hv hd=>?_⟩;rw[yDf]at hv hd
 by_cases h1:i<a.length
 .rw[yAJ h1]at hv;rw[yAJ (by rw[<-h.1];exact h1)]at hd;exact h.2 i v d hv hd
 .rw[yAI h1]at hv;rw[yAI (by rw[<-h.1];exact h1)]at hd;rw[<-h.1]at hd;exact k.2 _ v d hv hd
theorem aIy{a:Act}{fr:Jk}(hf:FR c a fr){o:Oper}{p:PD}(h:eS P fr o.op=some p)(w:World) :
  ∃v,(execOp a.eval o).run P w=.ok (.value v) w/\VR c v p:=by
 obtain⟨dst,op,ty,pos,after,guard⟩:=o;simp only at h;unfold eS at h;split at h
 .exact⟨_,by simp[execOp],eW hf h⟩
 .exact⟨_,by simp[execOp],eW hf h⟩
 .rename_i x y z;split at h
  .exact um
  .exact um
  .exact ak
 .rename_i bop t x y yt;split at h
  .rename_i pa pb h1 h2;have hc:∃v,(do eqGuard bop t x y (a.eval x) (a.eval y);binOp bop t (a.eval x) (a.eval y):Sem Value).run P w=.ok v w/\VR c v p:=by
    split at h
    .rename_i r hr;simp only[yAb]at h;subst h;exact aI5 hr (eW hf h1) (eW hf h2) w x y
    .exact aI6 h (eW hf h1) w x
   obtain⟨v,r,q⟩:=hc;refine⟨v,?_,q⟩;have e:execOp a.eval ⟨dst,.binOp bop t x y yt,ty,pos,after,guard⟩=((do eqGuard bop t x y (a.eval x) (a.eval y);binOp bop t (a.eval x) (a.eval y):Sem Value) >>= λz=>pure (.value z)):=rfl;rw[e,yBb,r];rfl
  .exact ak
 .rename_i uop t x;split at h
  .rename_i pa h1;obtain⟨v,r,q⟩:=aI7 (P:=P) h (eW hf h1) w;exact je
  .exact ak
 .rename_i s d x;split at h
  .exact ak
  .split at h
   .rename_i pa h1;obtain⟨v,r,q⟩:=aI8 h (eW hf h1) w;exact je
   .exact ak
 .rename_i f first captured;split at h
  .rename_i h0;split at h
   .rename_i ps hps;simp only[yAb]at h;subst h;have hv:=tV hf hps;have e:first=#[]:=yEg h0;subst e;refine⟨.func (.func f) #[] (captured.toList.map a.eval).toArray,?_,.func f _ ps hv.1 hv.2⟩;have e2:captured.map a.eval=(captured.toList.map a.eval).toArray:=Ep;simp[execOp,Instr.makeFunc,e2]
   .exact ak
  .split at h
   .rename_i h0;split at h
    .rename_i ps hps;simp only[yAb]at h;subst h;have hv:=tV hf hps;have e:captured=#[]:=yEg h0;subst e;refine⟨.func (.func f) (first.toList.map a.eval).toArray #[],?_,.kX f _ ps hv.1 hv.2⟩;have e2:first.map a.eval=(first.toList.map a.eval).toArray:=Ep;simp[execOp,Instr.makeFunc,e2]
    .exact ak
   .exact ak
 .rename_i t x lo hi mx;split at h
  .rename_i pa h1;obtain⟨v,r,q⟩:=aI9 hf h (eW hf h1) w;exact je
  .exact ak
 .rename_i s x f;split at h
  .rename_i pa h1;obtain⟨v,r,q⟩:=aJa h (eW hf h1) w;exact je
  .exact ak
 .rename_i t x f;split at h
  .rename_i pa h1;obtain⟨v,r,q⟩:=aJb h (eW hf h1) w;exact je
  .exact ak
 .rename_i t x i;split at h
  .rename_i pa pb h1 h2;obtain⟨v,r,q⟩:=aJc h (eW hf h1) (eW hf h2) w;exact je
  .exact ak
 .rename_i t x i;split at h
  .rename_i pa pb h1 h2;obtain⟨v,r,q⟩:=aJd h (eW hf h1) (eW hf h2) w;exact je
  .exact ak
 .rename_i x i;split at h
  .rename_i vs h1;obtain⟨cs,e,hcs⟩:=(eW hf h1).aJe;obtain⟨v,hv,q⟩:=hcs.get h;exact⟨v,by simp[execOp,e,Instr.extract,hv],q⟩
  .exact ak
 .rename_i x;split at h
  .rename_i id off h1;simp only[yAb]at h;subst h;have hv:=eW hf h1;obtain⟨b,e,_⟩:=hv.uY;exact ux
  .rename_i cs off h1;simp only[yAb]at h;subst h;have hv:=eW hf h1;obtain⟨ad,fl,e,_⟩:=hv.HV;exact⟨.pointer (some (ad.add off)),by simp[execOp,e],by rw[<-e];exact hv⟩
  .rename_i id ver off h1;simp only[yAb]at h;subst h;have hv:=eW hf h1;obtain⟨b,e,_⟩:=hv.HP;exact ux
  .exact ak
 .rename_i t parts;split at h
  .rename_i ps h1;obtain⟨a1,a2⟩:=O6 hf h1;obtain⟨v,r,q⟩:=aJf h a1 a2 w;refine⟨v,?_,q⟩;have e:(parts.map fun(x:Nat×Operand)=>(x.1,a.eval x.2))=(parts.toList.map λq=>(q.1,a.eval q.2)).toArray:=Ep;simp only[execOp,yBb];rw[show(Array.map (λx=>match x with|(i,x)=>(i,a.eval x)) parts)=(parts.toList.map λq=>(q.1,a.eval q.2)).toArray from by simpa using e,r];simp
  .exact ak
 .rename_i b args ts;split at h
  .rename_i ps h1;have hv:=tV hf h1;obtain⟨v,r,q⟩:=aJg h hv ty (args.map λ|.const _=>true|_=>false) w;refine⟨v,?_,q⟩;simp only[execOp,resolve,invoke,yBb,yBo,yBg];rw[show args.map a.eval=(args.toList.map a.eval).toArray from by apply yCi;simp];exact r
  .exact ak
 .exact ak
end
end
section
open Go.RowKit
section
variable{c:Cx}{fl:Nat}
theorem iF{w:World}{b:Nat}{o:Obj}(h:w.heap[b]?=some o):b<w.heap.size:=(yDE.1 h).1
theorem BD{w:World}{a:Addr}{v:Value}(h:w.cell? a=some v):a.block<w.heap.size:=World.block_lt_of_cell? w a h
def Cx.at(c:Cx)(w:World):Cx:={ c with w:=w }
theorem Nx.grow{w':World}(_hs:Sr c)(h:c.w.grownBy w' none):Nx fl c (c.at w') where
 X:=rfl
 os:=h.os
 tape:=h.tape
 output:=h.output
 size:=h.size
 len:=yAk _
 cell:=λa v ha hv=>⟨ha,by
  show w'.cell? a=some v
  rw[yCI (h.block a.block (BD hv) Ce)];exact hv⟩
 bQ:=λ_ h=>h
 new:=λ_ h=>.inl h
 tU:=λ_ p _ h=>⟨rfl,p,h⟩
 oF:=λ_ _ h=>⟨rfl,h⟩
 uZ:=λ_ _ _ n _ h=>⟨n,h,yAk _,λ_=>rfl⟩
 u5:=λ_ _ _ v cs _ h=>⟨v,cs,h,yAk _,λ_=>rfl⟩
 back:=λ_ _ h h' _=>⟨h,h'⟩
 frame:=λk hk _=>h.block k hk Ce
 ro:=λ_ _ _=>rfl
 hole:=λ_ _ _=>rfl
theorem DA{w w':World}{e:TypeId}{size n:Nat}{v:Value}{xs:Jm}(h:w.ownsRowF 0 e size v n xs)(hb:∀g,bI v=some g->w'.heap[g]?=w.heap[g]?):w'.ownsRowF 0 e size v n xs:=by
 refine⟨h.1,?_⟩;rcases h.2 with hn | ⟨g,cap,cur,fz,rfl,hb0,hg,rest⟩
 .exact .inl hn
 .exact .inr ⟨g,cap,cur,fz,rfl,hb0,by rw[hb g rfl];exact hg,rest⟩
theorem Sr.grow{w':World}(hs:Sr c)(h:c.w.grownBy w' none):Sr (c.at w') where
 box:=λid p hd hp=>by
  obtain⟨b,cs,T,e1,e2,e3,e4⟩:=hs.box id p hd hp;exact⟨b,cs,T,e1,by show w'.heap[b]?=_;rw[h.block b (iF e2) Ce];exact e2,e3.mono (Nx.grow (fl:=0) hs h),e4⟩
 own:=λid e size n hd ho=>by
  obtain⟨xs,hx⟩:=hs.own id e size n hd ho;exact xp
 mark:=λid hd hm=>by
  obtain⟨b,e1,e2⟩:=hs.mark id hd hm;exact⟨b,e1,by show w'.heap[b]?=_;rw[h.block b (iF e2) Ce];exact e2⟩
 row:=λid e sz ver ds hd ho=>by
  obtain⟨b,C,cur,e1,e2,e3,e4,e5,e6,e7,e8⟩:=hs.row id e sz ver ds hd ho;exact⟨b,C,cur,e1,by show w'.heap[b]?=_;rw[h.block b (iF e2) Ce];exact e2,e3,e4,e5,e6,e7.mono (Nx.grow (fl:=0) hs h),e8⟩
 map:=λid es hd ho=>by
  obtain⟨b,ents,clock,e1,e2,e3,e4⟩:=hs.map id es hd ho;exact⟨b,ents,clock,e1,by show w'.heap[b]?=_;rw[h.block b (iF e2) Ce];exact e2,e3.mono (Nx.grow (fl:=0) hs h),e4.mono (Nx.grow (fl:=0) hs h)⟩
 loop:=λid st fr ps asg bd hd hl=>by
  obtain⟨b,r,e1,e2,e3,e4,e5,e6,e7⟩:=hs.loop id st fr ps asg bd hd hl;exact⟨b,r,e1,by show w'.heap[b]?=_;rw[h.block b (iF e2) Ce];exact e2,e3,e4,e5,e6.mono (Nx.grow (fl:=0) hs h),e7⟩
 inj:=hs.inj
 lt:=λid b hd hb=>yBS (hs.lt id b hd hb) h.size
 bQ:=hs.bQ
 fresh:=λa ha=>hs.fresh a (yAQ h.size ha)
 kM:=hs.kM.mono (Nx.grow (fl:=0) hs h)
theorem grownBy_drew(w:World):w.grownBy w.drew none:=⟨rfl,rfl,rfl,yAk _,λ_ _ _=>rfl⟩
def Cx.push(c:Cx)(w:World)(v:Value)(o:aA):Cx:=
 { w:=w,ρ:=λi=>if i=c.σ.length then v else c.ρ i,σ:=c.σ++[o],D:=λi=>c.D i\/i=c.σ.length,X:=c.X }
theorem aI3{id:Nat}(hs:Sr c)(hd:c.D id):id≠c.σ.length:=Nat.ne_of_lt (hs.bQ id hd)
theorem p8{w:World}{v:Value}{o:aA}{id:Nat}(hs:Sr c)(hd:c.D id):(c.push w v o).ρ id=c.ρ id:=by simp[Cx.push,aI3 hs hd]
theorem wO{w:World}{v:Value}{o:aA}{id:Nat}(hs:Sr c)(hd:c.D id):(c.push w v o).σ[id]?=c.σ[id]?:=by
 simp[Cx.push,yAg (hs.bQ id hd)]
theorem iU{w:World}{v:Value}{o:aA}:(c.push w v o).σ[c.σ.length]?=some o/\(c.push w v o).ρ c.σ.length=v/\(c.push w v o).D c.σ.length:=by simp[Cx.push]
theorem Nx.push{w':World}{v:Value}{o:aA}(hs:Sr c)(h:c.w.grownBy w' none)(hv:∀b,bI v=some b->c.w.heap.size<=b):Nx fl c (c.push w' v o) where
 X:=rfl
 os:=h.os
 tape:=h.tape
 output:=h.output
 size:=h.size
 len:=by simp[Cx.push]
 cell:=λa u ha hu=>by
  have hlt:=BD hu;refine⟨⟨ha.1,λid o' hd ho=>?_⟩,by show w'.cell? a=some u;rw[yCI (h.block a.block hlt Ce)];exact hu⟩;rcases hd with hd|rfl
  .rw[wO hs hd]at ho;rw[p8 hs hd];exact ha.2 id o' hd ho
  .obtain⟨e1,e2,_⟩:=iU (c:=c) (w:=w') (v:=v) (o:=o);rw[e1]at ho;rw[e2];simp only[yAb]at ho;subst ho;cases o with
   |none=>trivial
   |box p=>intro b hb e;have:=hv b hb;omega
   |own e size n=>intro b hb e;have:=hv b hb;omega
   |row e size ver ds=>intro b hb e;have:=hv b hb;omega
   |map es=>trivial
   |mark=>trivial
   |loop st fr ps asg bd=>trivial
 bQ:=λ_ h=>.inl h
 new:=λid hd=>by rcases hd with hd|rfl;exact .inl hd;exact .inr (yAk _)
 tU:=λid p hd hp=>⟨p8 hs hd,p,by rw[wO hs hd];exact hp⟩
 oF:=λid hd hn=>⟨p8 hs hd,by rw[wO hs hd];exact hn⟩
 uZ:=λid e s n hd ho=>⟨n,by rw[wO hs hd];exact ho,yAk _,λ_=>p8 hs hd⟩
 u5:=λid e s v' cs hd ho=>⟨v',cs,by rw[wO hs hd]at ho;exact ho,yAk _,λ_=>p8 hs hd⟩
 back:=λid b hd hb hlt=>by
  rcases hd with hd|rfl
  .rw[p8 hs hd]at hb;exact⟨hd,hb⟩
  .rw[(iU (c:=c) (w:=w') (v:=v) (o:=o)).2.1]at hb;have:=hv b hb;omega
 frame:=λk hk _=>h.block k hk Ce
 ro:=λid _ hl=>by simp[Cx.push,yAg hl]
 hole:=λid hl _=>by simp[Cx.push,yAg hl]
theorem Sr.push{w':World}{v:Value}{o:aA}(hs:Sr c)(h:c.w.grownBy w' none)(hv:∀b,bI v=some b->c.w.heap.size<=b/\b<w'.heap.size)
  (ho:match o with
   |.none=>True
   |.box p=>∃b cs T,v=.pointer (some ⟨b,0,none⟩)/\w'.heap[b]?=some (.cells cs T (0,0))/\aZ c cs.toList p.cells/\(∀v∈cs.toList,v.oneCell'=true)/\∀t ds,p=.typed t ds->T=t
   |.own e size n=>∃xs,w'.ownsRowF 0 e size v n xs
   |.row e size _ ds=>∃b C cur,v=.slice (some ⟨b,0,none⟩) 0 C/\w'.heap[b]?=some (.cells cur e (0,0))/\cur.size=C*size/\C<=maxLen/\0<size /\
     ds.length<=cur.size/\aZ c (cur.toList.take ds.length) ds/\∀v∈cur.toList,v.oneCell'=true
   |.map es=>∃b ents clock,v=.map (some b)/\w'.heap[b]?=some (.map ents clock)/\aZ c (ents.toList.map MapEntry.key) (es.map Prod.fst)/\aZ c (ents.toList.map MapEntry.val) (es.map Prod.snd)
   |.mark=>∃b,v=.pointer (some ⟨b,0,none⟩)/\w'.heap[b]?=some (.deferred (some []))
   |.loop st fr ps assign body=>∃b r,v=.pointer (some ⟨b,0,none⟩)/\w'.heap[b]?=some (.loop r)/\r.params=ps.toArray/\r.assign=assign/\r.body=body/\aZ c r.tmps.toList fr/\st.fits r):Sr (c.push w' v o):=by
 have nx:Nx 0 c (c.push w' v o):=Nx.push hs h (λb hb=>(hv b hb).1);refine⟨?_,?_,?_,?_,?_,?_,?_,?_,?_,?_,hs.kM.mono nx⟩
 .intro id p hd hp;rcases hd with hd|rfl
  .rw[wO hs hd]at hp;obtain⟨b,cs,T,e1,e2,e3,e4⟩:=hs.box id p hd hp;exact⟨b,cs,T,(p8 hs hd).trans e1,by show w'.heap[b]?=_;rw[h.block b (iF e2) Ce];exact e2,e3.mono nx,e4⟩
  .rw[iU.1]at hp;simp only[yAb]at hp;subst hp;obtain⟨b,cs,T,e1,e2,e3,e4⟩:=ho;exact⟨b,cs,T,iU.2.1.trans e1,e2,e3.mono nx,e4⟩
 .intro id e size n hd hp;rcases hd with hd|rfl
  .rw[wO hs hd]at hp;obtain⟨xs,hx⟩:=hs.own id e size n hd hp;rw[p8 hs hd];exact xp
  .rw[iU.1]at hp;simp only[yAb]at hp;subst hp;rw[iU.2.1];exact ho
 .intro id e size ver ds hd hp;rcases hd with hd|rfl
  .rw[wO hs hd]at hp;obtain⟨b,C,cur,e1,e2,e3,e4,e5,e6,e7,e8⟩:=hs.row id e size ver ds hd hp;exact⟨b,C,cur,(p8 hs hd).trans e1,by show w'.heap[b]?=_;rw[h.block b (iF e2) Ce];exact e2,e3,e4,e5,e6,e7.mono nx,e8⟩
  .rw[iU.1]at hp;simp only[yAb]at hp;subst hp;obtain⟨b,C,cur,e1,e2,e3,e4,e5,e6,e7,e8⟩:=ho;exact⟨b,C,cur,iU.2.1.trans e1,e2,e3,e4,e5,e6,e7.mono nx,e8⟩
 .intro id es hd hp;rcases hd with hd|rfl
  .rw[wO hs hd]at hp;obtain⟨b,ents,clock,e1,e2,e3,e4⟩:=hs.map id es hd hp;exact⟨b,ents,clock,(p8 hs hd).trans e1,by show w'.heap[b]?=_;rw[h.block b (iF e2) Ce];exact e2,e3.mono nx,e4.mono nx⟩
  .rw[iU.1]at hp;simp only[yAb]at hp;subst hp;obtain⟨b,ents,clock,e1,e2,e3,e4⟩:=ho;exact⟨b,ents,clock,iU.2.1.trans e1,e2,e3.mono nx,e4.mono nx⟩
 .intro id hd hm;rcases hd with hd|rfl
  .rw[wO hs hd]at hm;obtain⟨b,e1,e2⟩:=hs.mark id hd hm;exact⟨b,(p8 hs hd).trans e1,by show w'.heap[b]?=_;rw[h.block b (iF e2) Ce];exact e2⟩
  .rw[iU.1]at hm;simp only[yAb]at hm;subst hm;obtain⟨b,e1,e2⟩:=ho;exact⟨b,iU.2.1.trans e1,e2⟩
 .intro id st fr ps asg bd hd hm;rcases hd with hd|rfl
  .rw[wO hs hd]at hm;obtain⟨b,r,e1,e2,e3,e4,e5,e6,e7⟩:=hs.loop id st fr ps asg bd hd hm;exact⟨b,r,(p8 hs hd).trans e1,by show w'.heap[b]?=_;rw[h.block b (iF e2) Ce];exact e2,e3,e4,e5,e6.mono nx,e7⟩
  .rw[iU.1]at hm;simp only[yAb]at hm;subst hm;obtain⟨b,r,e1,e2,e3,e4,e5,e6,e7⟩:=ho;exact⟨b,r,iU.2.1.trans e1,e2,e3,e4,e5,e6.mono nx,e7⟩
 .intro id id' b hd hd' hne hb hb';rcases hd with hd|rfl
  .rw[p8 hs hd]at hb;rcases hd' with hd' | rfl
   .rw[p8 hs hd']at hb';exact hs.inj id id' b hd hd' hne hb hb'
   .rw[iU.2.1]at hb';have:=(hv b hb').1;have:=hs.lt id b hd hb;omega
  .rw[iU.2.1]at hb;rcases hd' with hd' | rfl
   .rw[p8 hs hd']at hb';have:=(hv b hb).1;have:=hs.lt id' b hd' hb';omega
   .exact hne rfl
 .intro id b hd hb;rcases hd with hd|rfl
  .rw[p8 hs hd]at hb;exact yBS (hs.lt id b hd hb) h.size
  .rw[iU.2.1]at hb;exact(hv b hb).2
 .intro id hd;rcases hd with hd|rfl
  .have:=hs.bQ id hd;simp[Cx.push];omega
  .simp[Cx.push]
 .exact λa ha=>hs.fresh a (yAQ h.size ha)
def Cx.put(c:Cx)(w:World)(id:Nat)(v:Value)(o:aA):Cx:=
 { c with w:=w,ρ:=λi=>if i=id then v else c.ρ i,σ:=c.σ.set id o }
theorem eH{w:World}{v:Value}{o:aA}{id i:Nat}(h:i≠id):(c.put w id v o).σ[i]?=c.σ[i]?:=by simp[Cx.put,yAd (yAU h)]
theorem gY{w:World}{v:Value}{o:aA}{id i:Nat}(h:i≠id):(c.put w id v o).ρ i=c.ρ i:=by simp[Cx.put,h]
theorem fV{w:World}{v:Value}{o:aA}{id:Nat}(h:id<c.σ.length):(c.put w id v o).σ[id]?=some o:=by simp[Cx.put,h]
theorem nT{w:World}{v:Value}{o:aA}{id:Nat}:(c.put w id v o).ρ id=v:=Gj
theorem Nx.HW{w':World}{id b:Nat}{q q':PD}(hs:Sr c)(hd:c.D id)(hq:c.σ[id]?=some (.box q))(hr:c.ρ id=.pointer (some ⟨b,0,none⟩))(hfl:fl<=id)
  (h0:w'.os=c.w.os/\w'.tape=c.w.tape/\w'.output=c.w.output/\w'.heap.size=c.w.heap.size) (h1:∀k,k≠b->w'.heap[k]?=c.w.heap[k]?) :
  Nx fl c (c.put w' id (c.ρ id) (.box q')):=by
 have hρ:∀i,(c.put w' id (c.ρ id) (.box q')).ρ i=c.ρ i:=λi=>by
  exact lp
 have hb:bI (c.ρ id)=some b:=Ej;refine⟨rfl,h0.1,h0.2.1,h0.2.2.1,Nat.le_of_eq h0.2.2.2.symm,Gj,?_,λ_ h=>h,λ_ h=>.inl h,?_,?_,?_,?_,?_,?_,?_,λi _ hi=>eH (λe=>hi Hs)⟩
 .intro a u ha hu;have hne:a.block≠b:=ha.2 id _ hd hq b hb;refine⟨⟨ha.1,λi o hi ho=>?_⟩,by show w'.cell? a=some u;rw[yCI (h1 a.block hne)];exact hu⟩;rw[hρ]
  by_cases e:i=id
  .subst e;rw[fV (hs.bQ i hd)]at ho;simp only[yAb]at ho;subst ho;exact λb' hb'=>ha.2 i _ hd hq b' hb'
  .rw[eH e]at ho;exact ha.2 i o hi ho
 .intro i p hi hp;refine⟨hρ i,?_⟩
  by_cases e:i=id
  .subst e;exact⟨q',fV (hs.bQ i hd)⟩
  .exact⟨p,by rw[eH e];exact hp⟩
 .intro i hi hn;refine⟨hρ i,?_⟩
  by_cases e:i=id
  .subst e;rw[fV (hs.bQ i hd)];trivial
  .rw[eH e];exact hn
 .intro i e' s n hi ho;have e:i≠id:=by rintro rfl;rw[hq]at ho;cases ho
  exact⟨n,by rw[eH e];exact ho,yAk _,λ_=>hρ i⟩
 .intro i e' s v cs hi ho;have e:i≠id:=Cz;exact⟨v,cs,by rw[eH e]at ho;exact ho,yAk _,λ_=>hρ i⟩
 .intro i b' hi hb' _;rw[hρ]at hb';exact⟨hi,hb'⟩
 .intro k _ hk;exact h1 k (λe=>hk id hd hfl (by rw[e];exact hb))
 .exact qz
theorem Sr.HW{w':World}{id b:Nat}{q q':PD}{cs:Jn}{T:TypeId}(hs:Sr c)(hd:c.D id)(hq:c.σ[id]?=some (.box q))(hr:c.ρ id=.pointer (some ⟨b,0,none⟩))
  (h0:w'.os=c.w.os/\w'.tape=c.w.tape/\w'.output=c.w.output/\w'.heap.size=c.w.heap.size) (h1:∀k,k≠b->w'.heap[k]?=c.w.heap[k]?)
  (h2:w'.heap[b]?=some (.cells cs T (0,0))) (h3:aZ c cs.toList q'.cells) (h4:(∀v∈cs.toList,v.oneCell'=true)/\∀t ds,q'=.typed t ds->T=t):Sr (c.put w' id (c.ρ id) (.box q')):=by
 have nx:Nx 0 c (c.put w' id (c.ρ id) (.box q')):=Nx.HW hs hd hq hr (yAF _) h0 h1;have hρ:∀i,(c.put w' id (c.ρ id) (.box q')).ρ i=c.ρ i:=λi=>by
  exact lp
 have hb:bI (c.ρ id)=some b:=Ej;refine⟨?_,?_,?_,?_,?_,?_,?_,?_,?_,?_,hs.kM.mono nx⟩
 .intro i p hi hp
  by_cases e:i=id
  .subst e;rw[fV (hs.bQ i hd)]at hp;simp only[yAb,aA.box.injEq]at hp;subst hp;exact⟨b,cs,T,(hρ i).trans hr,h2,h3.mono nx,h4⟩
  .rw[eH e]at hp;obtain⟨b',cs',T',e1,e2,e3,e4⟩:=hs.box i p hi hp;refine⟨b',cs',T',(hρ i).trans e1,?_,e3.mono nx,e4⟩;exact di
 .intro i e' s n hi ho;have e:i≠id:=Cz;rw[eH e]at ho;obtain⟨xs,hx⟩:=hs.own i e' s n hi ho;rw[hρ];exact⟨xs,DA hx (λg hg=>h1 g (λe''=>hs.inj i id g hi hd e hg (by rw[e''];exact hb)))⟩
 .intro i e' size ver ds hi ho;have e:i≠id:=Cz;rw[eH e]at ho;obtain⟨b',C,cur,e1,e2,e3,e4,e5,e6,e7,e8⟩:=hs.row i e' size ver ds hi ho;refine⟨b',C,cur,(hρ i).trans e1,?_,e3,e4,e5,e6,e7.mono nx,e8⟩;exact di
 .intro i es hi ho;have e:i≠id:=Cz;rw[eH e]at ho;obtain⟨b',ents,clock,e1,e2,e3,e4⟩:=hs.map i es hi ho;refine⟨b',ents,clock,(hρ i).trans e1,?_,e3.mono nx,e4.mono nx⟩;exact di
 .intro i hi hm;have e:i≠id:=Jb;rw[eH e]at hm;obtain⟨b',e1,e2⟩:=hs.mark i hi hm;refine⟨b',(hρ i).trans e1,?_⟩;exact di
 .intro i st fr ps asg bd hi hm;have e:i≠id:=Jb;rw[eH e]at hm;obtain⟨b',r,e1,e2,e3,e4,e5,e6,e7⟩:=hs.loop i st fr ps asg bd hi hm;refine⟨b',r,(hρ i).trans e1,?_,e3,e4,e5,e6.mono nx,e7⟩;exact di
 .exact ur
 .intro i b' hi h5;rw[hρ]at h5;show b'<w'.heap.size
  rw[h0.2.2.2];exact hs.lt i b' hi h5
 .exact ld
 .intro a ha;exact hs.fresh a (by show c.w.heap.size<=a.block;rw[<-h0.2.2.2];exact ha)
theorem Nx.K7{w':World}{id n n' size:Nat}{e:TypeId}{v':Value}(hs:Sr c)(hd:c.D id)(hq:c.σ[id]?=some (.own e size n))(hfl:fl<=id)(hn:n<n')
  (h0:w'.os=c.w.os/\w'.tape=c.w.tape/\w'.output=c.w.output/\c.w.heap.size<=w'.heap.size)
  (h1:∀k,k<c.w.heap.size->bI (c.ρ id)≠some k->w'.heap[k]?=c.w.heap[k]?)
  (h2:∀(a:Addr) (u:Value),(∀b,bI (c.ρ id)=some b->a.block=b->a.off<n*size)->c.w.cell? a=some u->w'.cell? a=some u)
  (h3:bI v'=bI (c.ρ id)\/∀b,bI v'=some b->c.w.heap.size<=b) :
  Nx fl c (c.put w' id v' (.own e size n')):=by
 refine⟨rfl,h0.1,h0.2.1,h0.2.2.1,h0.2.2.2,Gj,?_,λ_ h=>h,λ_ h=>.inl h,?_,?_,?_,?_,?_,?_,?_,λi _ hi=>eH (λe=>hi Hs)⟩
 .intro a u ha hu;have hav:∀b,bI (c.ρ id)=some b->a.block=b->a.off<n*size:=ha.2 id _ hd hq;refine⟨⟨ha.1,λi o hi ho=>?_⟩,h2 a u hav hu⟩
  by_cases e':i=id
  .subst e';rw[fV (hs.bQ i hd)]at ho;simp only[yAb]at ho;subst ho;rw[nT];intro b hb hab;rcases h3 with h3|h3
   .have:=hav b (by rw[<-h3];exact hb) hab;exact yBS this (yBH _ (yBQ hn))
   .have:=h3 b hb;have:=BD hu;omega
  .rw[eH e']at ho;rw[gY e'];exact ha.2 i o hi ho
 .exact qh
 .exact qp
 .intro i e0 s m hi ho
  by_cases e':i=id
  .subst e';rw[hq]at ho;simp only[yAb,aA.own.injEq]at ho;obtain⟨rfl,rfl,rfl⟩:=ho;exact⟨n',fV (hs.bQ i hd),yBQ hn,λh=>Cd⟩
  .exact⟨m,by rw[eH e'];exact ho,yAk _,λ_=>gY e'⟩
 .intro i e0 s v cs hi ho;have e':i≠id:=Cz;exact⟨v,cs,by rw[eH e']at ho;exact ho,yAk _,λ_=>gY e'⟩
 .exact jo
 .intro k hk hx;exact h1 k hk (hx id hd hfl)
 .exact qz
theorem Sr.K7{w':World}{id n n' size:Nat}{e:TypeId}{v':Value}{xs:Jm}(hs:Sr c)(hd:c.D id)(hq:c.σ[id]?=some (.own e size n))(hn:n<n')
  (h0:w'.os=c.w.os/\w'.tape=c.w.tape/\w'.output=c.w.output/\c.w.heap.size<=w'.heap.size)
  (h1:∀k,k<c.w.heap.size->bI (c.ρ id)≠some k->w'.heap[k]?=c.w.heap[k]?)
  (h2:∀(a:Addr) (u:Value),(∀b,bI (c.ρ id)=some b->a.block=b->a.off<n*size)->c.w.cell? a=some u->w'.cell? a=some u)
  (h3:bI v'=bI (c.ρ id)\/∀b,bI v'=some b->c.w.heap.size<=b) (h4:w'.ownsRowF 0 e size v' n' xs) (h5:∀b,bI v'=some b->b<w'.heap.size) :
  Sr (c.put w' id v' (.own e size n')):=by
 have nx:Nx 0 c (c.put w' id v' (.own e size n')):=Nx.K7 hs hd hq (yAF _) hn h0 h1 h2 h3;have hoth:∀i b,c.D i->i≠id->bI (c.ρ i)=some b->bI v'≠some b:=λi b hi hne hb hb'=>by
  exact nq
 refine⟨?_,?_,?_,?_,?_,?_,?_,?_,?_,?_,hs.kM.mono nx⟩
 .exact zi
 .intro i e0 s m hi ho
  by_cases e':i=id
  .subst e';rw[fV (hs.bQ i hd)]at ho;simp only[yAb,aA.own.injEq]at ho;obtain⟨rfl,rfl,rfl⟩:=ho;rw[nT];exact⟨xs,h4⟩
  .rw[eH e']at ho;obtain⟨ys,hy⟩:=hs.own i e0 s m hi ho;rw[gY e'];exact⟨ys,DA hy (λg hg=>h1 g (hs.lt i g hi hg) (λh=>hs.inj i id g hi hd e' hg h))⟩
 .intro i e0 size' ver ds hi ho;have e':i≠id:=Cz;rw[eH e']at ho;obtain⟨b',C,cur,e1,e2,e3,e4,e5,e6,e7,e8⟩:=hs.row i e0 size' ver ds hi ho;exact Bb
 .exact zg
 .exact zk
 .exact ze
 .exact fu
 .exact ob
 .exact ld
 .intro a ha;exact hs.fresh a (yAQ h0.2.2.2 ha)
def aA.nc:aA->Prop
 |.box _=>False
 |.own _ _ _=>False
 |.row _ _ _ _=>False
 |_=>True
theorem Nx.wP{id b:Nat}{o o':aA}{x x':Obj}(hs:Sr c)(hd:c.D id)(ho:c.σ[id]?=some o)(hn:o.nc)(hn':o'.nc)(hb:bI (c.ρ id)=some b)(hfl:fl<=id)
  (hx:c.w.heap[b]?=some x) (hxc:∀cs T fz,x≠.cells cs T fz) :
  Nx fl c (c.put (c.w.putObj b x') id (c.ρ id) o'):=by
 have hρ:∀i,(c.put (c.w.putObj b x') id (c.ρ id) o').ρ i=c.ρ i:=λi=>by
  exact lp
 refine⟨rfl,rfl,rfl,rfl,Gj,Gj,?_,λ_ h=>h,λ_ h=>.inl h,?_,?_,?_,?_,?_,?_,?_,λi _ hi=>eH (λe=>hi Hs)⟩
 .intro a u ha hu;have hne:a.block≠b:=by
   intro e;unfold World.cell? at hu;rw[e,hx]at hu;cases x<;>first|exact hxc _ _ _ rfl|(simp at hu)
  refine⟨⟨ha.1,λi oo hi hoo=>?_⟩,by show(c.w.putObj b x').cell? a=some u;rw[yCI (yCM hne)];exact hu⟩;rw[hρ]
  by_cases e:i=id
  .subst e;rw[fV (hs.bQ i hd)]at hoo;simp only[yAb]at hoo;subst hoo;cases o'<;>first|exact hn'.elim|trivial
  .rw[eH e]at hoo;exact ha.2 i oo hi hoo
 .intro i p hi hp;have e:i≠id:=by rintro rfl;rw[ho]at hp;simp only[yAb]at hp;subst hp;exact hn
  exact⟨hρ i,p,by rw[eH e];exact hp⟩
 .intro i hi hni;refine⟨hρ i,?_⟩
  by_cases e:i=id
  .subst e;rw[fV (hs.bQ i hd)];cases o'<;>first|exact hn'.elim|trivial
  .rw[eH e];exact hni
 .intro i e0 s n hi hi';have e:i≠id:=by rintro rfl;rw[ho]at hi';simp only[yAb]at hi';subst hi';exact hn
  exact⟨n,by rw[eH e];exact hi',yAk _,λ_=>hρ i⟩
 .intro i e0 s v cs hi hi';have e:i≠id:=by rintro rfl;rw[fV (hs.bQ i hd)]at hi';simp only[yAb]at hi';subst hi';exact hn'
  exact⟨v,cs,by rw[eH e]at hi';exact hi',yAk _,λ_=>hρ i⟩
 .intro i b' hi hb' _;rw[hρ]at hb';exact⟨hi,hb'⟩
 .intro k _ hk;exact yCM (λe=>hk id hd hfl (by rw[e];exact hb))
 .exact qz
theorem Sr.wP{id b:Nat}{o o':aA}{x x':Obj}(hs:Sr c)(hd:c.D id)(ho:c.σ[id]?=some o)(hn:o.nc)(hn':o'.nc)(hb:bI (c.ρ id)=some b)
  (hx:c.w.heap[b]?=some x) (hxc:∀cs T fz,x≠.cells cs T fz)
  (hfit:match o' with
   |.mark=>x'=.deferred (some [])/\c.ρ id=.pointer (some ⟨b,0,none⟩)
   |.map es=>(∃ents clock,x'=.map ents clock/\aZ c (ents.toList.map MapEntry.key) (es.map Prod.fst)/\aZ c (ents.toList.map MapEntry.val) (es.map Prod.snd))/\c.ρ id=.map (some b)
   |.loop st fr ps assign body=>c.ρ id=.pointer (some ⟨b,0,none⟩)/\∃r,x'=.loop r/\r.params=ps.toArray/\r.assign=assign/\r.body=body/\aZ c r.tmps.toList fr/\st.fits r
   |_=>True):Sr (c.put (c.w.putObj b x') id (c.ρ id) o'):=by
 have nx:Nx 0 c (c.put (c.w.putObj b x') id (c.ρ id) o'):=Nx.wP hs hd ho hn hn' hb (yAF _) hx hxc;have hρ:∀i,(c.put (c.w.putObj b x') id (c.ρ id) o').ρ i=c.ρ i:=λi=>by
  exact lp
 have hlt:b<c.w.heap.size:=iF hx;have hnew:(c.w.putObj b x').heap[b]?=some x':=World.putObj_heap_same hlt;refine⟨?_,?_,?_,?_,?_,?_,?_,?_,?_,?_,hs.kM.mono nx⟩
 .intro i p hi hp;have e:i≠id:=by
   rintro rfl
   rw[fV (hs.bQ i hd)]at hp;simp only[yAb]at hp;subst hp;exact hn'
  rw[eH e]at hp;obtain⟨b',cs',T',e1,e2,e3,e4⟩:=hs.box i p hi hp;refine⟨b',cs',T',(hρ i).trans e1,?_,e3.mono nx,e4⟩;exact cy
 .intro i e0 s n hi hi';have e:i≠id:=by
   exact uo
  rw[eH e]at hi';obtain⟨xs,hx'⟩:=hs.own i e0 s n hi hi';rw[hρ];exact⟨xs,DA hx' (λg hg=>yCM (λe''=>hs.inj i id g hi hd e hg (by rw[e''];exact hb)))⟩
 .intro i e0 size ver ds hi hi';have e:i≠id:=by
   exact uo
  rw[eH e]at hi';obtain⟨b',C,cur,e1,e2,e3,e4,e5,e6,e7,e8⟩:=hs.row i e0 size ver ds hi hi';refine⟨b',C,cur,(hρ i).trans e1,?_,e3,e4,e5,e6,e7.mono nx,e8⟩;exact cy
 .intro i es hi hm
  by_cases e:i=id
  .subst e;rw[fV (hs.bQ i hd)]at hm;simp only[yAb]at hm;subst hm;obtain⟨⟨ents,clock,e2,e3,e4⟩,e1⟩:=hfit;subst e2;exact⟨b,ents,clock,(hρ i).trans e1,hnew,e3.mono nx,e4.mono nx⟩
  .rw[eH e]at hm;obtain⟨b',ents,clock,e1,e2,e3,e4⟩:=hs.map i es hi hm;refine⟨b',ents,clock,(hρ i).trans e1,?_,e3.mono nx,e4.mono nx⟩;exact cy
 .intro i hi hm
  by_cases e:i=id
  .subst e;rw[fV (hs.bQ i hd)]at hm;simp only[yAb]at hm;subst hm;obtain⟨hfit,hr⟩:=hfit;subst hfit;exact⟨b,(hρ i).trans hr,hnew⟩
  .rw[eH e]at hm;obtain⟨b',e1,e2⟩:=hs.mark i hi hm;refine⟨b',(hρ i).trans e1,?_⟩;exact cy
 .intro i st fr ps asg bd hi hm
  by_cases e:i=id
  .subst e;rw[fV (hs.bQ i hd)]at hm;simp only[yAb]at hm;subst hm;obtain⟨hr,r,e2,e3,e4,e5,e6,e7⟩:=hfit;subst e2;exact⟨b,r,(hρ i).trans hr,hnew,e3,e4,e5,e6.mono nx,e7⟩
  .rw[eH e]at hm;obtain⟨b',r,e1,e2,e3,e4,e5,e6,e7⟩:=hs.loop i st fr ps asg bd hi hm;refine⟨b',r,(hρ i).trans e1,?_,e3,e4,e5,e6.mono nx,e7⟩;exact cy
 .exact ur
 .intro i b' hi h5;rw[hρ]at h5;show b'<(c.w.putObj b x').heap.size
  simpa using hs.lt i b' hi h5
 .exact ld
 .intro a ha;exact hs.fresh a (by simpa [Cx.put]using ha)
theorem Nx.putRow{w':World}{id size ver gO:Nat}{e:TypeId}{v':Value}{ds ds':Jk}(hs:Sr c)(hd:c.D id)(hq:c.σ[id]?=some (.row e size ver ds))(hfl:fl<=id)(hver:ver<=gO)(hsame:ver=gO->v'=c.ρ id)
  (h0:w'.os=c.w.os/\w'.tape=c.w.tape/\w'.output=c.w.output/\c.w.heap.size<=w'.heap.size)
  (h1:∀k,k<c.w.heap.size->bI (c.ρ id)≠some k->w'.heap[k]?=c.w.heap[k]?)
  (h3:bI v'=bI (c.ρ id)\/∀b,bI v'=some b->c.w.heap.size<=b) :
  Nx fl c (c.put w' id v' (.row e size gO ds')):=by
 refine⟨rfl,h0.1,h0.2.1,h0.2.2.1,h0.2.2.2,Gj,?_,λ_ h=>h,λ_ h=>.inl h,?_,?_,?_,?_,?_,?_,?_,λi _ hi=>eH (λe=>hi Hs)⟩
 .intro a u ha hu;have hne:∀b,bI (c.ρ id)=some b->a.block≠b:=ha.2 id _ hd hq;refine⟨⟨ha.1,λi o hi ho=>?_⟩,by
   show w'.cell? a=some u
   rw[yCI (h1 a.block (BD hu) (λh=>hne _ h rfl))];exact hu⟩
  by_cases e':i=id
  .subst e';rw[fV (hs.bQ i hd)]at ho;simp only[yAb]at ho;subst ho;rw[nT];intro b hb hab;rcases h3 with h3|h3
   .exact hne b (by rw[<-h3];exact hb) hab
   .have:=h3 b hb;have:=BD hu;omega
  .rw[eH e']at ho;rw[gY e'];exact ha.2 i o hi ho
 .exact qh
 .exact qp
 .intro i e0 s m hi ho;have e':i≠id:=by rintro rfl;rw[hq]at ho;cases ho
  exact⟨m,by rw[eH e'];exact ho,yAk _,λ_=>gY e'⟩
 .intro i e0 s v cs hi ho
  by_cases e':i=id
  .subst e';rw[fV (hs.bQ i hd)]at ho;simp only[yAb,aA.row.injEq]at ho;obtain⟨rfl,rfl,rfl,rfl⟩:=ho;exact⟨ver,ds,hq,hver,λh=>by rw[nT];exact hsame h⟩
  .exact⟨v,cs,by rw[eH e']at ho;exact ho,yAk _,λ_=>gY e'⟩
 .exact jo
 .intro k hk hx;exact h1 k hk (hx id hd hfl)
 .exact qz
theorem Sr.putRow{w':World}{id size ver gO:Nat}{e:TypeId}{v':Value}{ds ds':Jk}(hs:Sr c)(hd:c.D id)(hq:c.σ[id]?=some (.row e size ver ds))(hver:ver<=gO)(hsame:ver=gO->v'=c.ρ id)
  (h0:w'.os=c.w.os/\w'.tape=c.w.tape/\w'.output=c.w.output/\c.w.heap.size<=w'.heap.size)
  (h1:∀k,k<c.w.heap.size->bI (c.ρ id)≠some k->w'.heap[k]?=c.w.heap[k]?)
  (h3:bI v'=bI (c.ρ id)\/∀b,bI v'=some b->c.w.heap.size<=b)
  (h4:∃b C cur,v'=.slice (some ⟨b,0,none⟩) 0 C/\w'.heap[b]?=some (.cells cur e (0,0))/\cur.size=C*size/\C<=maxLen/\0<size/\ds'.length<=cur.size/\aZ c (cur.toList.take ds'.length) ds'/\∀v∈cur.toList,v.oneCell'=true) :
  Sr (c.put w' id v' (.row e size gO ds')):=by
 have nx:Nx 0 c (c.put w' id v' (.row e size gO ds')):=Nx.putRow hs hd hq (yAF _) hver hsame h0 h1 h3;have h5:∀b,bI v'=some b->b<w'.heap.size:=λb hb=>by
  obtain⟨b',C,cur,rfl,h6,_⟩:=h4;simp only[bI,yAb]at hb;subst hb;exact iF h6
 have hoth:∀i b,c.D i->i≠id->bI (c.ρ i)=some b->bI v'≠some b:=λi b hi hne hb hb'=>by
  exact nq
 refine⟨?_,?_,?_,?_,?_,?_,?_,?_,?_,?_,hs.kM.mono nx⟩
 .exact zi
 .intro i e0 s n hi ho;have e':i≠id:=Cz;rw[eH e']at ho;obtain⟨xs,hx⟩:=hs.own i e0 s n hi ho;rw[gY e'];exact⟨xs,DA hx (λg hg=>h1 g (hs.lt i g hi hg) (λh=>hs.inj i id g hi hd e' hg h))⟩
 .intro i e0 size' aI4 ds0 hi ho
  by_cases e':i=id
  .subst e';rw[fV (hs.bQ i hd)]at ho;simp only[yAb,aA.row.injEq]at ho;obtain⟨rfl,rfl,rfl,rfl⟩:=ho;obtain⟨b',C,cur,e1,e2,e3,e4,e5,e6,e7,e8⟩:=h4;exact⟨b',C,cur,nT.trans e1,e2,e3,e4,e5,e6,e7.mono nx,e8⟩
  .rw[eH e']at ho;obtain⟨b',C,cur,e1,e2,e3,e4,e5,e6,e7,e8⟩:=hs.row i e0 size' aI4 ds0 hi ho;exact Bb
 .exact zg
 .exact zk
 .exact ze
 .exact fu
 .exact ob
 .exact ld
 .intro a ha;exact hs.fresh a (yAQ h0.2.2.2 ha)
end
end
section
open Go.RowKit
section
variable{P:Program}{c:Cx}{fl:Nat}
theorem vE(b off j:Nat):(⟨b,off,none⟩:Addr).add j=⟨b,off+j,none⟩:=Cr
theorem aI2{α:Type}(l vs:List α)(off dl:Nat)(h1:off+vs.length<=dl)(h2:dl<=l.length) :
  (l.take off++vs++l.drop (off+vs.length)).take dl=(l.take dl).take off++vs++(l.take dl).drop (off+vs.length):=by
 have e1:(l.take dl).take off=l.take off:=by rw[yCp];congr 1;omega
 have e2:(l.take off++vs).length=off+vs.length:=Co;rw[e1,List.take_append,e2,yAz (by rw[e2];omega),yDh]
theorem aZ.fill{cells vs:Jm}{z ws:Jk}(hz:aZ c cells z)(hv:aZ c vs ws)(h1:∀v∈vs,v.oneCell'=true)(off:Nat)(hle:off+ws.length<=z.length) :
  aZ c (cells.take off++vs++cells.drop (off+vs.length)) (dL z off ws):=by
 have:=UO hz (v:=.agg vs.toArray) (p:=.agg ws) (.agg vs ws hv.1 h1 hv.2) off hle;simpa [Value.cells,PD.cells]using this
theorem aBP(hs:Sr c){id e size ver:Nat}{ds:Jk}(hd:c.D id)(hq:c.σ[id]?=some (.row e size ver ds)){b C:Nat}(hr:c.ρ id=.slice (some ⟨b,0,none⟩) 0 C){vs:Jm}{ws:Jk}(hv:aZ c vs ws)
  (h1:∀v∈vs,v.oneCell'=true) {off:Nat} (hle:off+ws.length<=ds.length) (hfl:fl<=id) :
  ∃w',(storeCells ⟨b,off,none⟩ vs).run P c.w=.ok () w'/\Sr (c.put w' id (c.ρ id) (.row e size ver (dL ds off ws)))/\Nx fl c (c.put w' id (c.ρ id) (.row e size ver (dL ds off ws))):=by
 obtain⟨b',C',cur,e1,e2,e3,e4,e5,e6,e7,e8⟩:=hs.row id e size ver ds hd hq;rw[hr]at e1;simp only[yBL,yAb,yBG,yBn,yCj]at e1;obtain⟨rfl,rfl⟩:=e1;have hvl:vs.length=ws.length:=hv.1;have hst:=yDe (P:=P) b off e vs 0 cur c.w e2 Cd h1;simp only[yBk]at hst;refine⟨_,hst,?_,?_⟩
 .refine Sr.putRow hs hd hq (yAk _) (λ_=>rfl) ⟨rfl,rfl,rfl,Ce⟩ (λk _ hk=>yBM _ _ _ _ (λh=>hk (by rw[hr,h];rfl))) (.inl rfl)
   ⟨b,C,_,hr,yBV _ _ cur _ e (0,0) e2,?_,e4,e5,?_,?_,?_⟩
  .simp;omega
  .simp[dL];omega
  .have hpl:(dL ds off ws).length=ds.length:=by simp[dL];omega
   rw[hpl];show aZ c (List.take ds.length (cur.toList.take off++vs++cur.toList.drop (off+vs.length))) _
   rw[aI2 _ _ _ _ Cd (by simpa using e6)];exact e7.fill hv h1 off hle
  .exact O9 e8 h1 off (off+vs.length)
 .exact Nx.putRow hs hd hq hfl (yAk _) (λ_=>rfl) ⟨rfl,rfl,rfl,Ce⟩ (λk _ hk=>yBM _ _ _ _ (λh=>hk (by rw[hr,h];rfl))) (.inl rfl)
end
end
section
open Go.RowKit
section
variable{P:Program}{c:Cx}{fl:Nat}
def Leaves(fl:Nat)(c:Cx)(p:PD)(σ':List aA)(v:Value)(w':World):Prop:=
 ∃c',c'.w=w'/\c'.σ=σ'/\Sr c'/\Nx fl c c'/\VR c' v p/\∀id,c'.D id->c.D id\/(c.σ.length<=id/\id<σ'.length)
theorem DC{w:World}{a:Addr}{cs:Jm}{n:Nat}(hn:cs.length=n)(h:∀(j:Nat) (v:Value),cs[j]?=some v->w.cell? (a.add j)=some v) :
  (loadCells a n).run P w=.ok cs.toArray w:=by
 subst hn;exact run_loadCells_list w a cs h
theorem UL{w:World}{ad:Addr}{fA:Jm}{ds:Jk}(hl:aZ c fA ds)(h1:∀v∈fA,v.oneCell'=true)(hc:∀(j:Nat) (v:Value),fA[j]?=some v->w.cell? (ad.add j)=some v)
  {t:TypeId} {off:Nat} {p:PD} (h:oT P t ds off=some p):∃v,(loadVar t (ad.add off)).run P w=.ok v w/\VR c v p:=by
 unfold oT at h;split at h
 .rename_i n ha hs;split at h
  .rename_i hle;simp only[yAb]at h;subst h;have hlen:((fA.drop off).take n).length=n:=by have:=hl.1;simp;omega
   refine⟨.agg ((fA.drop off).take n).toArray,?_,?_⟩
   .have:=DC (P:=P) (w:=w) (a:=ad.add off) hlen (λj v hv=>by
     rw[yAv]at hv;split at hv
     .rw[yBh]at hv;rw[EY];exact hc _ v hv
     .simp at hv)
    simp[loadVar,PF ha,oH hs,this]
   .have h2:=hl.take_drop off n;exact .agg _ _ h2.1 (λv hv=>h1 v (yBd (yAy hv))) h2.2
  .exact ak
 .rename_i n ha hs;obtain⟨v,hv,hr⟩:=hl.get h;exact⟨v,by simp[loadVar,PF ha,hc _ v hv],hr⟩
 .exact ak
theorem aBp(hs:Sr c){t:TypeId}{a p:PD}(h:qP P c.σ t a=some p){va:Value}(ha:VR c va a):∃v,(Instr.loadAt t va).run P c.w=.ok v c.w/\VR c v p:=by
 unfold qP at h;split at h
 .rename_i id off;split at h
  .rename_i q hq;obtain⟨b,rfl,hd,_,hr⟩:=ha.uY;obtain⟨b',cs,T,e1,e2,e3,e4⟩:=hs.box id q hd hq;rw[hr]at e1;simp only[yCK,yAb,yBG,yBn]at e1;subst e1;have hadd:∀j,(⟨b,0,none⟩:Addr).add j=⟨b,j,none⟩:=λj=>Cr
   obtain⟨v,r,q⟩:=UL (P:=P) (w:=c.w) (ad:=⟨b,0,none⟩) e3 e4.1 (λj v hv=>by
    rw[hadd];simp only[World.cell?,e2];simpa using hv) h
   rw[hadd]at r;exact qi
  .exact ak
 .rename_i cs off;obtain⟨ad,fA,rfl,h1,h2,h3⟩:=ha.HV;obtain⟨v,r,q⟩:=UL (P:=P) (w:=c.w) h1 h2 (λj v hv=>(h3 j v hv).1) h;exact qi
 .rename_i id ver off;split at h
  .rename_i e sz gO cs hq;split at h
   .rename_i hver;subst hver;obtain⟨b,rfl,hp⟩:=ha.HP;obtain⟨C,hr⟩:=(hp.2 e sz _ cs hq).2 rfl;obtain⟨b',C',cur,e1,e2,e3,e4,e5,e6,e7,e8⟩:=hs.row id e sz _ cs hp.1 hq;rw[hr]at e1;simp only[yBL,yAb,yBG,yBn,yCj]at e1;obtain⟨rfl,rfl⟩:=e1;obtain⟨v,r,q⟩:=UL (P:=P) (w:=c.w) (ad:=⟨b,0,none⟩) e7 (λv hv=>e8 v (yAy hv)) (λj v hv=>by
     rw[vE];simp only[World.cell?,e2];rw[yAv]at hv;split at hv
     .simpa using hv
     .cases hv) h
    rw[vE]at r;simp only[yAp]at r;exact qi
   .cases h
  .cases h
 .exact ak
theorem zK(w:World)(o:Obj):w.grownBy (w.alloc o) none:=World.grownBy_alloc w o none
theorem aIY{c:Cx}{v:Value}{p:PD}(h:wM v=some p):VR c v (xP p):=by
 by_cases hp:p=.slice 0 [] .full
 .subst hp;have hv:v=.slice none 0 0:=by
   unfold wM at h;split at h<;>first|rfl|(simp at h;done)
  subst hv;exact .slice none 0 0 0 [] .nil [] rfl (yAk _) (by simp[maxLen]) Ce rfl Ce Ce Ce ⟨rfl,rfl,rfl⟩
 .have:xP p=p:=by
   unfold xP;split
   .exact absurd rfl hp
   .rfl
  rw[this];exact(UM h).1
theorem aB3{c:Cx}:∀ {vs:Jm} {ps:Jk},wN vs=some ps->aZ c vs (ps.map xP)
 | [],ps,h=>by simp[wN]at h;subst h;exact⟨rfl,Ce⟩
 |v::vs,ps,h=>by
  unfold wN at h;cases h1:wM v with
  |none=>simp[h1]at h
  |some p=>
   cases h2:wN vs with
   |none=>simp[h1,h2]at h
   |some qs=>
    simp[h1,h2]at h;subst h;have a1:=aIY (c:=c) h1;obtain⟨b1,b2⟩:=aB3 (c:=c) h2;refine⟨by simpa using b1,λi v' d hv hd=>?_⟩;exact nk
theorem aIZ{c:Cx}{v:Value}{p:PD}(t:TypeId)(h:ofValue v=some p):aZ c v.cells.toList (boxed t p).cells:=by
 have h0:=(UN (c:=c) h).cells;cases p with
 |agg cs=>
  show aZ c _ (if ON t=true then PD.typed t (cs.map xP)else PD.agg cs).cells
  by_cases ht:ON t=true
  .rw[yAJ ht];unfold ofValue at h;split at h
   .split at h
    .rename_i ps hps;simp only[yAb,PD.agg.injEq]at h;subst h;exact aB3 hps
    .exact ak
   .split at h<;>simp at h
   .unfold wM at h;split at h<;>simp at h
  .rw[yAI ht];exact h0
 |_=>exact h0
theorem OY{t:TypeId}{p:PD}(h:fQ P t=some p){v:Value}{i:TypeInfo}(hi:P.info? t=some i)(hz:i.zero=some v)(t':TypeId):aZ c v.cells.toList (boxed t' p).cells:=by
 unfold fQ at h;rw[hi]at h;simp only[hz]at h;exact aIZ t' h
theorem VR.aIk{c:Cx}{v:Value}{t:TypeId}{ds:Jk}(h:VR c v (.typed t ds)):False:=Ck
theorem OZ{c:Cx}{T t:TypeId}{p:PD}{v:Value}{ds:Jk}(hv:VR c v p)(h:boxed T p=.typed t ds):T=t:=by
 unfold boxed at h;split at h
 .split at h
  .simp only[PD.typed.injEq]at h;exact h.1
  .cases h
 .subst h;cases hv
theorem T2(hs:Sr c){p:PD}{v:Value}(hcv:aZ c v.cells.toList p.cells)(h1:∀u∈v.cells.toList,u.oneCell'=true)(T:TypeId)(hT:∀t ds,p=.typed t ds->T=t) :
  (newVar T v).run P c.w=.ok ⟨c.w.heap.size,0,none⟩ (c.w.alloc (.cells v.cells T)) /\
  Leaves fl c (.ptr c.σ.length 0) (c.σ++[.box p]) (.pointer (some ⟨c.w.heap.size,0,none⟩)) (c.w.alloc (.cells v.cells T)):=by
 refine⟨by simp[newVar,newRow],c.push (c.w.alloc (.cells v.cells T)) (.pointer (some ⟨c.w.heap.size,0,none⟩)) (.box p),rfl,rfl,?_,?_,?_,?_⟩
 .refine Sr.push hs (zK _ _) (λb hb=>?_) ⟨_,v.cells,T,rfl,yC _ _,hcv,h1,hT⟩;simp[bI]at hb;subst hb;simp
 .refine Nx.push hs (zK _ _) (λb hb=>?_);simp[bI]at hb;subst hb;exact yAk _
 .exact .ptr _ _ _ (.inr rfl) ⟨p,iU.1⟩ iU.2.1
 .exact dm
theorem aI0{q q':PD}{off:Nat}{new:Jk}(h:q.setCells off new=some q')(hn:new.all PD.plain=true):off+new.length<=q.cells.length/\q'.cells=dL q.cells off new:=by
 unfold PD.setCells at h;split at h
 .split at h
  .exact ye
  .exact ak
 .split at h
  .exact ye
  .exact ak
 .rename_i hne PG;split at h
  .rename_i h0;subst h0;split at h
   .rename_i r;simp only[yAb]at h;subst h;have hq:q.cells=[q]:=by cases q<;>first|rfl|(exact(hne _ rfl).elim)|(exact(PG _ _ rfl).elim)
    have hr:r.cells=[r]:=by
     have:r.plain=true:=Gi;cases r<;>first|rfl|(simp[PD.plain]at this)
    rw[hq,hr];exact⟨Ce,by simp[dL]⟩
   .exact ak
  .exact ak
theorem aI1{q q':PD}{off:Nat}{new:Jk}(h:q.setCells off new=some q')(hn:new.all PD.plain=true){t:TypeId}{ds:Jk}(e:q'=.typed t ds):∃ds',q=.typed t ds':=by
 subst e;unfold PD.setCells at h;split at h
 .split at h<;>simp at h
 .split at h
  .simp only[yAb,PD.typed.injEq]at h;obtain⟨rfl,_⟩:=h;exact⟨_,rfl⟩
  .exact ak
 .split at h
  .split at h
   .simp only[yAb]at h;subst h;simp[PD.plain]at hn
   .exact ak
  .exact ak
theorem aIj(hs:Sr c){t:TypeId}{a p:PD}{σ':Jj}(h:rE P fl c.σ t a p=some σ'){va v:Value}(ha:VR c va a)(hv:VR c v p) :
  ∃w',(Instr.storeAt t va v).run P c.w=.ok () w'/\Leaves fl c (.aH []) σ' undef w':=by
 unfold rE at h;split at h
 .rename_i id off;split at h
  .rename_i hfl;split at h
   .rename_i q n hq hn;split at h
    .rename_i hp;split at h
     .rename_i q' dN;simp only[yAb]at h;subst h;obtain⟨b,rfl,hd,_,hr⟩:=ha.uY;obtain⟨b',cs,T,e1,e2,e3,e4⟩:=hs.box id q hd hq;rw[hr]at e1;simp only[yCK,yAb,yBG,yBn]at e1;subst e1;obtain⟨hle,hcq⟩:=aI0 dN hp.2;have hvc:=hv.cells;have sI:=aZ.zM hvc hp.2;have hvl:v.cells.toList.length=n:=by rw[hvc.1];exact hp.1
      have hcl:cs.toList.length=q.cells.length:=e3.1;have hst:=yDe (P:=P) b off T v.cells.toList 0 cs c.w e2 (by have:=hvc.1;simp at hcl ⊢;simp at this;omega) sI;simp only[yBk]at hst;refine⟨_,?_,c.put (c.w.setRow b (cs.toList.take off++v.cells.toList++cs.toList.drop (off+v.cells.toList.length)).toArray) id (c.ρ id) (.box q'),rfl,rfl,?_,?_,K4 _,λi hi=>.inl hi⟩
      .have hsz:v.cells.size=n:=by simpa using hvl
       exact qq
      .refine Sr.HW (T:=T) hs hd hq hr ⟨rfl,rfl,rfl,Ce⟩ (λk hk=>yBM _ _ _ _ hk) (yBV _ _ cs _ T (0,0) e2) ?_ ?_
       .rw[hcq];have:=UO e3 hv off (by rw[hvc.1]at hvl;omega);exact cv
       .refine⟨by have:=O9 e4.1 sI off (off+v.cells.toList.length);simpa using this,λt ds e=>?_⟩;exact e4.2 t _ (aI1 dN hp.2 e).choose_spec
      .exact Nx.HW hs hd hq hr hfl ⟨rfl,rfl,rfl,Ce⟩ (λk hk=>yBM _ _ _ _ hk)
     .exact ak
    .exact ak
   .exact ak
  .exact ak
 .rename_i id ver off;split at h
  .rename_i hfl;split at h
   .rename_i e sz gO cs n hq hn;split at h
    .rename_i hc;obtain⟨rfl,hpl,hpp,hle⟩:=hc;simp only[yAb]at h;subst h;obtain⟨b,rfl,hp⟩:=ha.HP;obtain⟨C,hr⟩:=(hp.2 e sz _ cs hq).2 rfl;have hvc:=hv.cells;obtain⟨w',hst,hs',hn'⟩:=aBP (P:=P) (fl:=fl) hs hp.1 hq hr hvc (aZ.zM hvc hpp) (off:=off) Cd hfl;have hsz:v.cells.size=n:=by have:=hvc.1;simp at this;omega
     refine⟨w',?_,_,rfl,rfl,hs',hn',K4 _,λi hi=>.inl hi⟩;exact qq
    .exact ak
   .exact ak
  .exact ak
 .exact ak
end
end
section
open Go.RowKit
section
variable{P:Program}{c:Cx}{fl:Nat}
theorem aBX{c':Cx}{e:TypeId}{size n m:Nat}{v':Value}{xs ys:Jk}{flx fly:Jm}{tok:Tok}(hnx:n=xs.length)(hmy:m=ys.length)(hpos:0<n+m)
  (hx:∀x∈xs,x.cells.length=size) (hy:∀x∈ys,x.cells.length=size) (hlx:flx.length=n*size)
  (KV:∀v∈flx,v.oneCell'=true) (UA:∀v∈fly,v.oneCell'=true)
  (hrx:∀(j:Nat) (v:Value) (d:PD),flx[j]?=some v->(xs.flatMap PD.cells)[j]?=some d->VR c' v d)
  (hry:∀(j:Nat) (v:Value) (d:PD),fly[j]?=some v->(ys.flatMap PD.cells)[j]?=some d->VR c' v d)
  (hown:c'.w.ownsRowF 0 e size v' (n+m) (flx++fly))
  (hav:∀g j,bI v'=some g->j<(n+m)*size->c'.av ⟨g,j,none⟩)
  (htok:∀cap,v'=.slice (match v' with|.slice A _ _=>A|_=>none) (n+m) cap->sH c' size (n+m) cap v' tok) :
  VR c' v' (.slice size (xs++ys) tok):=by
 rcases hown.2 with⟨rfl,h0⟩ | ⟨g,cap,cur,fz,rfl,_,hg,_,hnc,hcm,hcs,htake⟩
 .omega
 .have hlen:(flx++fly).length=(n+m)*size:=hown.1;have hle:(n+m)*size<=cur.toList.length:=by simp[hcs];exact yBH _ hnc
  refine .slice _ (n+m) cap size (xs++ys) tok (flx++fly) (by simp[hnx,hmy]) hnc hcm ?_ hlen ?_ ?_ ?_ (htok cap rfl)
  .intro x hx';rcases yBr.1 hx' with h|h
   .exact hx x h
   .exact hy x h
  .intro v hv;rcases yBr.1 hv with h|h
   .exact KV v h
   .exact UA v h
  .intro j v hv;have hj:j<(n+m)*size:=by rw[<-hlen];exact(yA.1 hv).1
   refine⟨⟨g,0,none⟩,rfl,?_,?_⟩
   .have hadd:(⟨g,0,none⟩:Addr).add j=⟨g,j,none⟩:=by unfold Addr.add;split<;>simp_all
    rw[hadd];rw[<-htake,yAv,yAJ hj]at hv;simp only[World.cell?,hg];simpa using hv
   .have hadd:(⟨g,0,none⟩:Addr).add j=⟨g,j,none⟩:=by unfold Addr.add;split<;>simp_all
    rw[hadd];exact hav g j rfl hj
  .intro j v d hv hd;rw[yEd]at hd;have hfx:(xs.flatMap PD.cells).length=flx.length:=by rw[FM xs hx,hlx,hnx]
   rw[yDf]at hv hd
   by_cases h:j<flx.length
   .rw[yAJ h]at hv;rw[yAJ (by rw[hfx];exact h)]at hd;exact hrx j v d hv hd
   .rw[yAI h]at hv;rw[yAI (by rw[hfx];exact h),hfx]at hd;exact hry _ v d hv hd
theorem K5{c':Cx}{a:Addr}(hX:c'.X a)(h:∀id o,c'.D id->c'.σ[id]?=some o->bI (c'.ρ id)=some a.block->∃e size n,o=.own e size n/\a.off<n*size):c'.av a:=by
 refine⟨hX,λid o hd ho=>?_⟩;cases o with
 |none=>trivial
 |box p=>
  intro b hb hab;obtain⟨_,_,_,e,_⟩:=h id _ hd ho (by rw[hb,hab]);cases e
 |own e size n=>
  intro b hb hab;obtain⟨_,_,_,e',hlt⟩:=h id _ hd ho (by rw[hb,hab]);cases e';exact hlt
 |row e size ver ds=>
  intro b hb hab;obtain⟨_,_,_,e',_⟩:=h id _ hd ho (by rw[hb,hab]);cases e'
 |map es=>trivial
 |mark=>trivial
 |loop st fr ps asg bd=>trivial
theorem UG{w:World}{e:TypeId}{size n:Nat}{v:Value}{xs:Jm}(h:w.ownsRowF 0 e size v n xs){b:Nat}(hb:bI v=some b):b<w.heap.size:=by
 rcases h.2 with⟨rfl,_⟩ | ⟨g,cap,cur,fz,rfl,_,hg,_⟩
 .simp[bI]at hb
 .simp[bI]at hb;subst hb;exact iF hg
def Xw(fl:Nat)(c:Cx):Prop:=∀id g,c.D id->fl<=id->bI (c.ρ id)=some g->∀a:Addr,a.block=g->c.X a
theorem Xw.next{c':Cx}(h:Xw fl c)(hs:Sr c)(nx:Nx fl c c'):Xw fl c':=by
 intro id g hd hf hb a ha;rw[nx.X];rcases yCg g c.w.heap.size with hlt|hge
 .obtain⟨q1,q2⟩:=nx.back id g hd hb hlt;exact h id g q1 hf q2 a ha
 .exact hs.fresh a Cd
theorem aIN{w:World}{e:TypeId}{size n cap:Nat}{A:Option Addr}{K6 flx:Jm}(h:w.ownsRowF 0 e size (.slice A n cap) n K6)(hl:flx.length=n*size)
  (hc:∀(j:Nat) (v:Value),flx[j]?=some v->∃ad,A=some ad/\w.cell? (ad.add j)=some v):flx=K6:=by
 apply yCo;intro j;rcases h.2 with⟨hv,h0⟩ | ⟨g,cap',cur,fz,hv,_,hg,_,hnc,_,hcs,htake⟩
 .have e1:flx=[]:=yAf (by rw[hl,h0];simp);have e2:K6=[]:=yAf (by rw[h.1,h0];simp);rw[e1,e2]
 .simp only[yBL]at hv;obtain⟨rfl,_,rfl⟩:=hv
  by_cases hj:j<n*size
  .have hj':j<flx.length:=by rw[hl];exact hj
   obtain⟨ad,e,hcell⟩:=hc j flx[j] (by simp[hj']);cases e;have hadd:(⟨g,0,none⟩:Addr).add j=⟨g,j,none⟩:=Cr;rw[hadd]at hcell;simp only[World.cell?,hg]at hcell;rw[<-htake,yAv,yAJ hj];rw[yAh hj'];simpa using hcell.symm
  .rw[yBy (by rw[hl];omega),yBy (by rw[h.1];omega)]
structure Src (P:Program) (w:World) (t u ty e:TypeId) (i:TypeInfo) (vx:Value) (m:Nat) (fly:List Value):Prop where
 none_:m=0->∀(A:Option Addr) (n cap:Nat),n<=cap->(Builtin.append_ #[t,u] ty #[.slice A n cap,vx]).run P w=.ok (.slice A n cap) w
 grow:0<m->∀(A:Option Addr) (n cap:Nat) (flx:List Value),(A=none->n=0/\cap=0)->flx.length=n*i.size->(∀(j:Nat) (v:Value),flx[j]?=some v->∃ad,A=some ad/\w.cell? (ad.add j)=some v) ->
  cap<n+m->n+m<=maxLen->(n+m)*i.bytes<=140737488355328 ->
  ∃v' w',(Builtin.append_ #[t,u] ty #[.slice A n cap,vx]).run P w=.ok v' w'/\w'.ownsRowF 0 e i.size v' (n+m) (flx++fly)/\w.grownBy w' none/\∀b,bI v'=some b->w.heap.size<=b
 spare:∀(g n cap:Nat) (flx:List Value),w.ownsRowF 0 e i.size (.slice (some ⟨g,0,none⟩) n cap) n flx->n+m<=cap ->
  ∃w',(Builtin.append_ #[t,u] ty #[.slice (some ⟨g,0,none⟩) n cap,vx]).run P w=.ok (.slice (some ⟨g,0,none⟩) (n+m) cap) w' /\
   w'.ownsRowF 0 e i.size (.slice (some ⟨g,0,none⟩) (n+m) cap) (n+m) (flx++fly)/\w.grownBy w' (some g)
theorem aBY{w:World}{b:Nat}{e:TypeId}{size n:Nat}{v:Value}{xs:Jm}(h:w.ownsRow b e size v n xs):w.ownsRowF 0 e size v n xs:=
 ⟨h.1,h.2.imp (λq=>q) (λ⟨g,cp,cur,q1,_,q2,q3⟩=>⟨g,cp,cur,(0,0),q1,yAF _,q2,yAF _,q3⟩)⟩
theorem aBZ{w:World}{b:Nat}{e:TypeId}{size n:Nat}{v:Value}{xs:Jm}(h:w.ownsRow b e size v n xs):∀k,bI v=some k->b<=k:=by
 intro k hb;rcases h.2 with⟨rfl,_⟩ | ⟨g,cp,cur,rfl,hge,_⟩
 .simp[bI]at hb
 .simp[bI]at hb;omega
theorem aIO{w:World}{b:Nat}{e:TypeId}{size n:Nat}{v:Value}{xs:Jm}(h:w.ownsRowF b e size v n xs):∀k,bI v=some k->b<=k:=by
 intro k hb;rcases h.2 with⟨rfl,_⟩ | ⟨g,cp,cur,fz,rfl,hge,_⟩
 .simp[bI]at hb
 .simp[bI]at hb;omega
theorem aIP{w:World}{b:Nat}{e:TypeId}{size n:Nat}{v:Value}{xs:Jm}(h:w.ownsRowF b e size v n xs):w.ownsRowF 0 e size v n xs:=
 ⟨h.1,h.2.imp (λq=>q) (λ⟨g,cp,cur,fz,q1,_,q2⟩=>⟨g,cp,cur,fz,q1,yAF _,q2⟩)⟩
theorem aIQ{w:World}{t ty e:TypeId}{i:TypeInfo}{z:Value}(hu:P.underlying t=some (.slice e))(hi:P.info? e=some i)(hz:i.zero=some z)(hzs:z.cells.size=i.size)(hpos:0<i.size){B:Option Addr}{m c':Nat}{fly:Jm}
  (hl:fly.length=m*i.size) (h1:∀v∈fly,v.oneCell'=true) (hb:∀(j:Nat) (v:Value),fly[j]?=some v->∃ad,B=some ad/\w.cell? (ad.add j)=some v):Src P w t t ty e i (.slice B m c') m fly where
 none_:=λh0 A n cap hn=>by
  subst h0;have hfy:(Builtin.firstCells i.size 0 (.slice B 0 c')).run P w=.ok #[] w:=by
   cases B<;>simp[Builtin.firstCells,loadCells,loadCellsFrom]
  exact tw
 grow:=λhm A n cap flx hA hlx hc hcap hmax hby=>by
  have UB:0<fly.length:=by rw[hl];exact yDd hm hpos
  obtain⟨bd,rfl,_⟩:=hb 0 fly[0] (by simp[UB]);have hnews:∀(j:Nat) (u:Value),fly[j]?=some u->w.cell? (bd.add j)=some u:=λj u hj=>by
   obtain⟨ad,e',h9⟩:=hb j u hj;exact ng
  cases A with
  |none=>
   obtain⟨rfl,rfl⟩:=hA rfl;have KW:flx=[]:=yAf (by rw[hlx];simp);subst KW;obtain⟨v',w',r,h2,h3,h4,h5⟩:=run_append_own_at (P:=P) w w.heap.size t ty e i z i.size i.bytes hu hi hz rfl rfl hzs hpos (.slice none 0 0) 0 [] (World.ownsRow_nil _ _ _ _)
    bd m c' fly hl hnews h1 Cd (by simpa using hby) (yAk _)
   exact⟨v',w',r,aBY h2,h3,aBZ h2⟩
  |some ad=>
   have holds:∀(j:Nat) (u:Value),flx[j]?=some u->w.cell? (ad.add j)=some u:=λj u hj=>by
    obtain⟨KX,e',h9⟩:=hc j u hj;exact ng
   obtain⟨v',w',r,h2,h3⟩:=run_append_arg_grows (P:=P) w t ty e i z i.size i.bytes hu hi hz rfl rfl hzs hpos ad n cap flx hlx holds bd m c' fly hl hnews hcap hmax hby;exact⟨v',w',r,aBY h2,h3,aBZ h2⟩
 spare:=λg n cap flx hown hroom=>by
  rcases hown.2 with⟨h0,_⟩ | ⟨g',cap',cur,fz,hv,hbg,hg,hfz,hnc,hcm,hcs,htake⟩
  .cases h0
  .cases hv;have hlen:(flx++fly).length=(n+m)*i.size:=by rw[yAa,hown.1,hl,yBz]
   have hfit:n*i.size+fly.length<=cur.size:=by rw[hl,hcs,<-yBz];exact yBH _ hroom
   have hst:=run_storeCells_atF P g (n*i.size) e fz fly 0 cur w hg (by simpa using hfz) (by simpa using hfit) h1;simp only[yBk]at hst;have hf:(Builtin.firstCells i.size m (.slice B m c')).run P w=.ok fly.toArray w:=by
    cases B with
    |none=>
     have:fly=[]:=by
      cases fly with
      |nil=>rfl
      |cons x xs=>obtain⟨_,e',_⟩:=hb 0 x rfl;cases e'
     exact uc
    |some bd=>
     simp only[Builtin.firstCells];exact DC hl λj v hj=>by
      obtain⟨ad,e',h9⟩:=hb j v hj;exact ng
   have hr:(Builtin.append_ #[t,t] ty #[.slice (some ⟨g,0,none⟩) n cap,.slice B m c']).run P w =
     .ok (.slice (some ⟨g,0,none⟩) (n+m) cap) (w.setRow g (cur.toList.take (n*i.size)++fly++cur.toList.drop (n*i.size+fly.length)).toArray):=by
    simp[Builtin.append_,yAM hu,sizeOf,typeInfo,hi,Builtin.lenOf,hroom,hf,Addr.add_lit,hst]
   refine⟨_,hr,⟨hlen,.inr ⟨g,cap,_,fz,rfl,hbg,yBV w g cur _ e _ hg,?_,hroom,hcm,?_,?_⟩⟩,⟨rfl,rfl,rfl,Ce,λk _ hk=>yBM w g k _ (λe=>hk (by simp[e]))⟩⟩
   .exact yAQ hfz (yBH _ Cd)
   .simp only[yCq,yAa,yAt,yBa,yBf];omega
   .rw[htake,<-hlen];exact yCr
theorem aIR{w:World}{t u ty e:TypeId}{i:TypeInfo}(hu:P.underlying t=some (.slice e))(hs:P.underlying u=some .string)(hi:P.info? e=some i)(hz:i.zero=some (.int .u8 0))(hsz:i.size=1)(hby:i.bytes=1)(l:List UInt8) :
  Src P w t u ty e i (.string ⟨l.toArray⟩) l.length (l.map λb=>.int .u8 b.toNat):=by
 have hsl:(ByteArray.mk l.toArray).size=l.length:=Gr;have hcl:Lib.strCells ⟨l.toArray⟩=l.map λb=>Value.int .u8 b.toNat:=by simp[Lib.strCells]
 refine⟨λh0 A n cap hn=>?_,λhm A n cap flx hA hlx hc hcap hmax hb=>?_,λg n cap flx hown hroom=>?_⟩
 .have:l=[]:=yAf h0;subst this;have hfy:(Builtin.firstCells i.size 0 (.string ⟨#[]⟩)).run P w=.ok #[] w:=by simp[Builtin.firstCells]
  have hl0:(ByteArray.mk (#[]:Array UInt8)).size=0:=rfl;cases A<;>simp[Builtin.append_,yAM hu,yAM hs,sizeOf,typeInfo,hi,Builtin.lenOf,hl0,hfy,hn,storeCells]
 .cases A with
  |none=>
   obtain⟨rfl,rfl⟩:=hA rfl;have KW:flx=[]:=yAf (by rw[hlx];simp);subst KW;obtain⟨v',w',r,h2,h3,_⟩:=Lib.run_append_own_stringF (P:=P) w w.heap.size t u ty e i hu hs hi hz hsz hby (.slice none 0 0) 0 [] (World.ownsRowF_nil _ _ _ _) ⟨l.toArray⟩ Cd (by rw[hsl];rw[hby]at hb;omega) (yAk _);rw[hsl,hcl]at h2;rw[hsz];exact⟨v',w',r,aIP h2,h3,aIO h2⟩
  |some ad=>
   have holds:∀(j:Nat) (u:Value),flx[j]?=some u->w.cell? (ad.add j)=some u:=λj u hj=>by
    obtain⟨KX,e',h9⟩:=hc j u hj;exact ng
   have hr:=Lib.run_append_grow_string (P:=P) w t u ty e i (.int .u8 0) hu hs hi hz ad n cap flx hlx holds ⟨l.toArray⟩ Cd (by rw[hsl];simp only[maxLen]at hmax;omega) (by rw[hby,hsl];exact growslice_fits Cd (by rw[hby]at hb;omega));rw[hsl]at hr;have hge:=yDv w (n+l.length) cap e;have aIS:grownCap w (n+l.length) cap e<=maxLen:=yDK w (n+l.length) cap e hmax;refine⟨_,_,hr,⟨by simp[hlx,hsz],.inr ⟨w.heap.size,_,_,(0,0),rfl,yAF _,yC w.drew _,yAF _,hge,aIS,?_,?_⟩⟩,⟨rfl,rfl,rfl,Ce,λk hk _=>yDw w.drew _ hk⟩,λb hb'=>by simp[bI]at hb';omega⟩
   .have hz1:(Value.int IntKind.u8 0).cells.size=1:=rfl;rw[hsz]at hlx;simp only[yDM,yCq,yDx,hz1,hlx,hcl,yAe,hsz];omega
   .rw[hcl,hsz];simp only[yDL,yAi];rw[<-yAi];have:(n+l.length)*1=(flx++l.map λb=>Value.int .u8 b.toNat).length:=by rw[yAa,hlx,hsz,yAe];omega
    rw[this];exact yCr
 .rcases hown.2 with⟨h0,_⟩ | ⟨g',cap',cur,fz,hv,hbg,hg,hfz,hnc,hcm,hcs,htake⟩
  .cases h0
  .cases hv;rw[hsz]at hown hfz hcs htake;have hxl:flx.length=n:=by simpa using hown.1
   have hr:=Lib.run_append_room_stringF (P:=P) w t u ty e i hu hs hi hsz g n cap cur fz hg (by simpa using hfz) ⟨l.toArray⟩ (by rw[hsl];exact hroom) (by rw[hsl];omega);rw[hsl,hcl]at hr;have hlen:(flx++l.map λb=>Value.int .u8 b.toNat).length=(n+l.length)*1:=by rw[yAa,hxl,yAe,yDg]
   rw[hsz];refine⟨_,hr,⟨hlen,.inr ⟨g,cap,_,fz,rfl,hbg,yBV w g cur _ e _ hg,Cd,hroom,hcm,?_,?_⟩⟩,⟨rfl,rfl,rfl,Ce,λk _ hk=>yBM w g k _ (λe=>hk (by simp[e]))⟩⟩
   .simp only[yCq,yAa,yAt,yBa,yBf,yAe];omega
   .have ht':cur.toList.take n=flx:=by simpa using htake
    rw[ht',<-hlen];exact yCr
theorem aB0(hs:Sr c)(hX:Xw fl c){t u ty:TypeId}{s p:PD}{sz':Nat}{ys:Jk}{jM:Tok}{σ':Jj}(hnn:∀n xs,s≠.slice n xs .nil)(h:kG P fl c.σ t s (.slice sz' ys jM)=some (p,σ')){vs vx:Value}(hvs:VR c vs s){fly:Jm}
  (b3:∀x∈ys,x.cells.length=sz') (b5:∀v∈fly,v.oneCell'=true) (b7:∀(j:Nat) (v:Value) (d:PD),fly[j]?=some v->(ys.flatMap PD.cells)[j]?=some d->VR c v d)
  (hsrc:∀e i z,P.underlying t=some (.slice e)->P.info? e=some i->i.zero=some z->z.cells.size=i.size->0<i.size->(ys.length=0\/sz'=i.size)->Src P c.w t u ty e i vx ys.length fly) :
  ∃v w',(Builtin.append_ #[t,u] ty #[vs,vx]).run P c.w=.ok v w'/\Leaves fl c p σ' v w':=by
 unfold kG at h;split at h
 .rename_i e hu;split at h
  .rename_i i hi;split at h
   .rename_i z sz xs tok FG ys1 aUO hz hxx;simp only[PD.slice.injEq]at hxx;obtain⟨rfl,rfl,rfl⟩:=hxx;split at h
    .rename_i hc;obtain⟨hsz,HR,hpos,hzs,hmax,hby⟩:=hc;obtain⟨A,cap,flx,rfl,a1,a2,a3,a4,a5,a6,a7,a8⟩:=hvs.pJ;have src:=hsrc e i z hu hi hz hzs hpos HR
     by_cases hy0:ys.length=0
     ·
      rw[yAJ hy0]at h;simp only[yAb,yAc]at h;obtain⟨rfl,rfl⟩:=h;exact⟨.slice A xs.length cap,c.w,src.none_ hy0 A _ cap a1,c,rfl,rfl,hs,.refl _ _,hvs,λ_ h=>.inl h⟩
     .rw[yAI hy0]at h;have hypos:0<ys.length:=yDy hy0;have aIT:sz'=i.size:=HR.resolve_left hy0;subst aIT;have hcells:∀(j:Nat) (v:Value),flx[j]?=some v->∃ad,A=some ad/\c.w.cell? (ad.add j)=some v:=λj v hj=>by
       exact nw
      cases tok with
      |any=>simp at h
      |j4=>simp at h
      |kW=>simp at h
      |nil=>exact absurd rfl (hnn _ _)
      |full=>
       simp only[yAb,yAc]at h;obtain⟨rfl,rfl⟩:=h;simp only[sH]at a8;have hx3:∀x∈xs,x.cells.length=i.size:=λx hx=>by
        have:xs.length≠0:=by intro e0;rw[List.length_eq_zero_iff.1 e0]at hx;cases hx
        rw[<-hsz.resolve_left this];exact a3 x hx
       have UJ:flx.length=xs.length*i.size:=by
        exact xm
       have hA:A=none->xs.length=0/\cap=0:=by
        rintro rfl
        have hx0:xs.length=0:=by
         rcases yEc xs.length with h0|h0
         .exact h0
         .have:0<flx.length:=by rw[UJ];exact yDd h0 hpos
          exact xh
        exact⟨hx0,Cd⟩
       obtain⟨v',w',r,hown,hgr,hnew⟩:=src.grow hypos A xs.length cap flx hA UJ hcells Cd hmax hby;refine⟨v',w',r,c.push w' v' (.own e i.size (xs.length+ys.length)),rfl,rfl,?_,?_,?_,?_⟩
       .exact Sr.push hs hgr (λb hb=>⟨hnew b hb,UG hown hb⟩) ⟨_,hown⟩
       .exact Nx.push hs hgr hnew
       .have nx:Nx 0 c (c.push w' v' (.own e i.size (xs.length+ys.length))):=Nx.push hs hgr hnew;refine aBX (e:=e) (flx:=flx) (fly:=fly) rfl rfl Cd hx3 b3 UJ a5 b5 (λj v d q1 q2=>(a7 j v d q1 q2).mono nx) (λj v d q1 q2=>(b7 j v d q1 q2).mono nx) hown ?_ ?_
        .intro g j hg hj;refine K5 (hs.fresh _ (hnew g hg)) (λid o hd ho hb=>?_);rcases hd with hd|rfl
         .rw[p8 hs hd]at hb;have:=hs.lt id g hd hb;have:=hnew g hg;omega
         .rw[iU.1]at ho;exact ya
        .intro cp _;exact⟨.inr rfl,e,_,iU.1,yAk _,λ_=>iU.2.1⟩
       .exact dm
      |own id=>
       simp only at h;split at h
       .rename_i hflid;split at h
        .rename_i e' tY n hq;split at h
         .rename_i hcc;obtain⟨he,rfl,rfl⟩:=hcc;have he:=he.symm;subst he;simp only[yAb,yAc]at h;obtain⟨rfl,rfl⟩:=h;obtain⟨hfl,rfl⟩:=hflid;obtain⟨hd,e0,m0,dN,hle,hρ⟩:=a8;rw[hq]at dN;simp only[yAb,aA.own.injEq]at dN;obtain⟨rfl,_,rfl⟩:=dN;have aB1:=hρ rfl;obtain⟨K6,PE⟩:=hs.own id _ _ _ hd hq;rw[aB1]at PE;have hfx:flx=K6:=aIN PE a4 hcells;subst hfx;have hrun:∃v' w',(Builtin.append_ #[t,u] ty #[.slice A xs.length cap,vx]).run P c.w=.ok v' w' /\
            w'.ownsRowF 0 e i.size v' (xs.length+ys.length) (flx++fly)/\(w'.os=c.w.os/\w'.tape=c.w.tape/\w'.output=c.w.output/\c.w.heap.size<=w'.heap.size) /\
            (∀k,k<c.w.heap.size->bI (c.ρ id)≠some k->w'.heap[k]?=c.w.heap[k]?) /\
            (∀(a:Addr) (u:Value),(∀b,bI (c.ρ id)=some b->a.block=b->a.off<xs.length*i.size)->c.w.cell? a=some u->w'.cell? a=some u) /\
            (bI v'=bI (c.ρ id)\/∀b,bI v'=some b->c.w.heap.size<=b):=by
           rw[aB1];have hgrow:cap<xs.length+ys.length->(A=none->xs.length=0/\cap=0)->∃v' w',(Builtin.append_ #[t,u] ty #[.slice A xs.length cap,vx]).run P c.w=.ok v' w' /\
             w'.ownsRowF 0 e i.size v' (xs.length+ys.length) (flx++fly)/\(w'.os=c.w.os/\w'.tape=c.w.tape/\w'.output=c.w.output/\c.w.heap.size<=w'.heap.size) /\
             (∀k,k<c.w.heap.size->bI (.slice A xs.length cap)≠some k->w'.heap[k]?=c.w.heap[k]?) /\
             (∀(a:Addr) (u:Value),(∀b,bI (.slice A xs.length cap)=some b->a.block=b->a.off<xs.length*i.size)->c.w.cell? a=some u->w'.cell? a=some u) /\
             (bI v'=bI (.slice A xs.length cap)\/∀b,bI v'=some b->c.w.heap.size<=b):=λhcap hA=>by
            obtain⟨v',w',r,h2,h3,h4⟩:=src.grow hypos A xs.length cap flx hA a4 hcells hcap hmax hby;refine⟨v',w',r,h2,⟨h3.os,h3.tape,h3.output,h3.size⟩,λk hk _=>h3.block k hk Ce,λa u _ wQ=>?_,.inr h4⟩;rw[yCI (h3.block a.block (BD wQ) Ce)];exact wQ
           rcases PE.2 with⟨jN,h0⟩ | ⟨g,aUP,cur,fz,jN,_,hg,hfz,hnc,hcm,hcs,htake⟩
           .simp only[yBL]at jN;obtain⟨rfl,_,rfl⟩:=jN;exact hgrow Cd (λ_=>⟨h0,rfl⟩)
           .simp only[yBL]at jN;obtain⟨rfl,_,rfl⟩:=jN
            by_cases hroom:xs.length+ys.length<=cap
            .obtain⟨w',r,h2,h3⟩:=src.spare g xs.length cap flx PE hroom;refine⟨_,w',r,h2,⟨h3.os,h3.tape,h3.output,h3.size⟩,λk hk hne=>h3.block k hk (by simpa [bI,eq_comm]using hne),λa u ha wQ=>?_,.inl rfl⟩
             by_cases hag:a.block=g
             .have hoff:=ha g rfl hag;rcases h2.2 with⟨sI,_⟩ | ⟨g1,cp1,aIU,fz1,sI,_,iH,_,_,_,_,aIV⟩
              .simp at sI
              .simp only[yBL,yAb,yBG,yBn]at sI;obtain⟨rfl,_,rfl⟩:=sI;obtain⟨ab,ao,asp⟩:=a;simp only at hag hoff;subst hag;simp only[World.cell?,hg,iH]at wQ ⊢;split at wQ
               .simp at wQ
               .rename_i hsp;rw[yAI hsp];have q1:flx[ao]?=some u:=by rw[<-htake,yAv,yAJ hoff];simpa using wQ
                have q2:(flx++fly)[ao]?=some u:=by rw[yAg (yA.1 q1).1];exact q1
                rw[<-aIV,yAv]at q2;split at q2
                .simpa using q2
                .simp at q2
             .rw[yCI (h3.block a.block (BD wQ) (by simpa using hag))];exact wQ
            .exact hgrow Cd (λh=>Ck)
          obtain⟨v',w',r,hown,h0,h1,h2,h3⟩:=hrun;have hn:xs.length<xs.length+ys.length:=Cd;refine⟨v',w',r,c.put w' id v' (.own e i.size (xs.length+ys.length)),rfl,rfl,Sr.K7 hs hd hq hn h0 h1 h2 h3 hown (λb hb=>UG hown hb),Nx.K7 hs hd hq hfl hn h0 h1 h2 h3,?_,λ_ h=>.inl h⟩;have nx:Nx 0 c (c.put w' id v' (.own e i.size (xs.length+ys.length))):=Nx.K7 hs hd hq (yAF _) hn h0 h1 h2 h3;refine aBX (e:=e) (flx:=flx) (fly:=fly) rfl rfl Cd a3 b3 a4 a5 b5 (λj v d q1 q2=>(a7 j v d q1 q2).mono nx) (λj v d q1 q2=>(b7 j v d q1 q2).mono nx) hown ?_ ?_
          .intro g j hg hj;have hXg:c.X ⟨g,j,none⟩:=by
            rcases h3 with h3|h3
            .exact hX id g hd hfl (by rw[<-h3];exact hg) _ rfl
            .exact hs.fresh _ (h3 g hg)
           refine K5 hXg (λi' o hd' ho hb=>?_)
           by_cases e':i'=id
           .subst e';rw[fV (hs.bQ i' hd)]at ho;exact ya
           .rw[gY e']at hb
            exfalso
            rcases h3 with h3|h3
            .exact hs.inj i' id g hd' hd e' hb (by rw[<-h3];exact hg)
            .have:=h3 g hg;have:=hs.lt i' g hd' hb;omega
          .intro cp _;exact⟨hd,e,_,fV (hs.bQ id hd),yAk _,λ_=>nT⟩
         .exact ak
        .exact ak
       .exact ak
    .exact ak
   .exact ak
  .exact ak
 .exact ak
theorem aB2(hs:Sr c)(hX:Xw fl c){t u ty:TypeId}{s p:PD}{sz':Nat}{ys:Jk}{jM:Tok}{σ':Jj}(h:kG P fl c.σ t s (.slice sz' ys jM)=some (p,σ')){vs vx:Value}(hvs:VR c vs s){fly:Jm}
  (b3:∀x∈ys,x.cells.length=sz') (b5:∀v∈fly,v.oneCell'=true) (b7:∀(j:Nat) (v:Value) (d:PD),fly[j]?=some v->(ys.flatMap PD.cells)[j]?=some d->VR c v d)
  (hsrc:∀e i z,P.underlying t=some (.slice e)->P.info? e=some i->i.zero=some z->z.cells.size=i.size->0<i.size->(ys.length=0\/sz'=i.size)->Src P c.w t u ty e i vx ys.length fly) :
  ∃v w',(Builtin.append_ #[t,u] ty #[vs,vx]).run P c.w=.ok v w'/\Leaves fl c p σ' v w':=by
 by_cases hn:∃n xs,s=.slice n xs .nil
 .obtain⟨n,xs,rfl⟩:=hn;have aIW:VR c vs (.slice n xs .full):=by
   obtain⟨A,cap,fA,rfl,a1,a2,a3,a4,a5,a6,a7,a8⟩:=hvs.pJ;exact .slice A _ cap n xs .full fA rfl a1 a2 a3 a4 a5 a6 a7 (by obtain⟨_,q1,q2⟩:=a8;show xs.length=cap;omega)
  have h2:∀(h0:ys.length≠0),kG P fl c.σ t (.slice n xs .full) (.slice sz' ys jM)=some (p,σ'):=λh0=>by
   unfold kG at h ⊢;cases he:P.underlying t with
   |none=>rw[he]at h;cases h
   |some d=>
    rw[he]at h;cases d with
    |slice e=>
     simp only at h ⊢;cases hi:P.info? e with
     |none=>rw[hi]at h;cases h
     |some i=>
      rw[hi]at h;simp only at h ⊢;cases hz:i.zero with
      |none=>rw[hz]at h;cases h
      |some z=>
       rw[hz]at h;simp only[h0,yAN]at h ⊢;exact h
    |_=>cases h
  by_cases h0:ys.length=0
  .obtain⟨A,cap,fA,rfl,a1,a2,a3,a4,a5,a6,a7,a8⟩:=hvs.pJ;unfold kG at h;split at h
   .rename_i e he;split at h
    .rename_i i hi;split at h
     .rename_i z _ _ _ _ _ _ hz he2 he3;simp only[PD.slice.injEq]at he2 he3;obtain⟨rfl,rfl,rfl⟩:=he2;obtain⟨rfl,rfl,rfl⟩:=he3;split at h
      .rename_i hc;simp only[yAb,yAc]at h;obtain⟨rfl,rfl⟩:=h;exact⟨.slice A xs.length cap,c.w,(hsrc e i z he hi hz hc.2.2.2.1 hc.2.2.1 hc.2.1).none_ h0 A _ cap a1,c,rfl,rfl,hs,.refl _ _,hvs,λ_ h=>.inl h⟩
      .cases h
     .cases h
    .cases h
   .cases h
  .exact aB0 hs hX (λ_ _ e=>Dc) (h2 h0) aIW b3 b5 b7 hsrc
 .exact aB0 hs hX (λn xs e=>hn ⟨n,xs,e⟩) h hvs b3 b5 b7 hsrc
theorem aIv(hs:Sr c)(hX:Xw fl c){t:TypeId}{s x p:PD}{σ':Jj}(h:kG P fl c.σ t s x=some (p,σ')){vs vx:Value}(hvs:VR c vs s)(hvx:VR c vx x)(ty:TypeId) :
  ∃v w',(Builtin.append_ #[t,t] ty #[vs,vx]).run P c.w=.ok v w'/\Leaves fl c p σ' v w':=by
 have hx:∃sz' ys jM,x=.slice sz' ys jM:=by
  unfold kG at h;split at h
  .split at h
   .split at h
    .exact⟨_,_,_,rfl⟩
    .cases h
   .cases h
  .cases h
 obtain⟨sz',ys,jM,rfl⟩:=hx;obtain⟨B,cap',fly,rfl,b1,b2,b3,b4,b5,b6,b7,b8⟩:=hvx.pJ;refine aB2 hs hX h hvs b3 b5 b7 (λe i z hu hi hz hzs hpos hsz=>?_);have hl:fly.length=ys.length*i.size:=by
  rcases hsz with h0|h0
  .rw[b4,h0];simp
  .rw[b4,h0]
 exact aIQ hu hi hz hzs hpos hl b5 (λj v hj=>by obtain⟨ad,q1,q2,_⟩:=b6 j v hj;exact⟨ad,q1,q2⟩)
def aIX(l:List UInt8):PD:=.slice (if l.length=0 then 0 else 1) (l.map λb=>.int .u8 b.toNat) .any
theorem UK:∀l:List UInt8,(l.map λb=>PD.int .u8 b.toNat).flatMap PD.cells=l.map λb=>PD.int .u8 b.toNat
 | []=>rfl
 |x::xs=>by
  simp only[yAV,yBx,UK xs];rfl
theorem aIw(hs:Sr c)(hX:Xw fl c){t u:TypeId}{s p:PD}{l:Jl}{σ':Jj}(hst:P.underlying u=some .string)(hb:OO P t=true)(h:kG P fl c.σ t s (aIX l)=some (p,σ')){vs:Value}(hvs:VR c vs s)(ty:TypeId) :
  ∃v w',(Builtin.append_ #[t,u] ty #[vs,.string ⟨l.toArray⟩]).run P c.w=.ok v w'/\Leaves fl c p σ' v w':=by
 have hfm:(l.map λb=>PD.int .u8 b.toNat).flatMap PD.cells=l.map λb=>PD.int .u8 b.toNat:=UK l
 have:=aB2 (u:=u) (ty:=ty) (vx:=.string ⟨l.toArray⟩) (fly:=l.map λb=>.int .u8 b.toNat) hs hX h hvs ?_ ?_ ?_ ?_
 .exact this
 .intro x hx;obtain⟨b,hb,rfl⟩:=yAw.1 hx;have:l.length≠0:=by intro e;rw[List.length_eq_zero_iff.1 e]at hb;cases hb
  rw[yAI this];rfl
 .intro v hv;obtain⟨b,_,rfl⟩:=yAw.1 hv;rfl
 .intro j v d h1 h2;rw[hfm]at h2;rw[yAo]at h1 h2;cases hj:l[j]? with
  |none=>rw[hj]at h1;simp at h1
  |some b=>
   rw[hj]at h1 h2;simp only[yAC,yAb]at h1 h2;subst h1 h2;exact ja
 .intro e i z hu hi hz hzs hpos hsz;simp only[OO,hu,hi,hz]at hb;rw[yAe];split at hb
  .rename_i heq;simp only[yAb]at heq;subst heq;simp only[yAr,yCf]at hb;exact aIR hu hst hi hz hb.1 hb.2 l
  .cases hb
end
end
section
open Go.RowKit
section
variable{P:Program}{c:Cx}{fl:Nat}
theorem aBV{n:Nat}:∀(parts:List (Nat×PD)) (i:Nat) (ps z:List PD),HE i parts=some ps->(∀p∈ps,p.cells.length=n/\p.cells.all PD.plain=true)->(i+ps.length)*n<=z.length ->
  zI (λi=>some (i*n,n)) z parts=some (z.take (i*n)++ps.flatMap PD.cells++z.drop ((i+ps.length)*n))
 | [],i,ps,z,h,_,_=>by simp[HE]at h;subst h;simp[zI]
 |(j,p)::parts,i,ps,z,h,hp,hl=>by
  unfold HE at h;split at h
  .rename_i hj;subst hj;split at h
   .rename_i qs hq;simp only[yAb]at h;subst h;obtain⟨sA,jY⟩:=hp p Ce;have hle:(j+1+qs.length)*n<=z.length:=by simpa [yBW,Nat.add_comm 1]using hl
    have hjn:j*n+n<=z.length:=by
     exact wm
    have hz:(dL z (j*n) p.cells).length=z.length:=by simp[dL,sA];omega
    have ih:=aBV parts (j+1) qs (dL z (j*n) p.cells) hq (λq dN=>hp q (by simp[dN])) (by rw[hz];exact hle);have e1:(dL z (j*n) p.cells).take ((j+1)*n)=z.take (j*n)++p.cells:=by
     unfold dL;rw[yCL (by simp[sA,yBz];omega),yAz (by simp[sA,yBz];omega)]
    have e2:(dL z (j*n) p.cells).drop ((j+1+qs.length)*n)=z.drop ((j+1+qs.length)*n):=by
     have h3:j*n+n<=(j+1+qs.length)*n:=by
      exact wm
     unfold dL;rw[yDN,yAs (by simp[sA];omega),yAW,yBE]
     congr 1
     simp[sA];omega
    unfold zI;simp only;rw[yAI (by simp[sA,jY];omega),ih,e1,e2];simp only[yBx,yAi,yAT];rw[show j+1+qs.length=j+(qs.length+1) by omega]
   .exact ak
  .exact ak
theorem aBU{t:TypeId}{n:Nat}(h:cT P t=some n):∃i,P.info? t=some i/\i.size=n:=PB h
theorem aBN(hs:Sr c){t:TypeId}{len:Nat}{parts:List (Nat×PD)}{vparts:List (Nat×Value)}{p:PD}(h:uV P t len parts=some p)(hl:vparts.length=parts.length)
  (hp:∀(i:Nat) (jv:Nat×Value) (jp:Nat×PD),vparts[i]?=some jv->parts[i]?=some jp->jv.1=jp.1/\VR c jv.2 jp.2) :
  ∃e cells',P.underlying t=some (.slice e)/\(Instr.buildSlice t len vparts.toArray).run P c.w=.ok (.slice (some ⟨c.w.heap.size,0,none⟩) len len) (c.w.alloc (.cells cells' e)) /\
   ∀w'' fz,c.w.grownBy w'' none->w''.heap[c.w.heap.size]?=some (.cells cells' e fz)->VR (c.at w'') (.slice (some ⟨c.w.heap.size,0,none⟩) len len) p:=by
 unfold uV at h;split at h
 .rename_i e hu;split at h
  .rename_i n z ps hn hz hix;split at h
   .rename_i hcond;obtain⟨hlen,hn0,hsmall,hall,hzl,hzp⟩:=hcond;simp only[yAb]at h;subst h;obtain⟨zv,i,hi,hzv,hzr⟩:=FK (c:=c) hz;have hzc:=hzr.cells;have hzs:zv.cells.size=n:=Gx;have hps:∀q∈ps,q.cells.length=n/\q.cells.all PD.plain=true:=λq hq=>by
     have:=yAn.1 hall q hq;exact cv
    let z0:List PD:=(List.range (len*n)).map λk=>z.cells.getD (k%n) (.aH [])
    let c0:Array Value:=(Array.range (len*n)).map λk=>zv.cells[k%zv.cells.size]!
    have hc0:aZ c c0.toList z0:=by
     refine⟨by simp[c0,z0],λk v d hv hd=>?_⟩;simp only[c0,z0,yDt,yDu,yAo]at hv hd;cases hk:(List.range (len*n))[k]? with
     |none=>simp[hk]at hv
     |some k'=>
      exact iu
    have hz1:∀v∈zv.cells.toList,v.oneCell'=true:=aZ.zM hzc hzp;have eQ:∀v∈c0.toList,v.oneCell'=true:=by
     intro v hv;simp only[c0,yDt,yDu,yAw]at hv;exact ou
    have aBW:z0.length=len*n:=by simp[z0]
    have hfi:=aBV (n:=n) parts 0 ps z0 hix hps (by rw[aBW,hlen];simp);obtain⟨cells',f1,f2,f3⟩:=PC parts vparts z0 c0 _ hl hp hc0 eQ hfi;have hcs:z0.take (0*n)++ps.flatMap PD.cells++z0.drop ((0+ps.length)*n)=ps.flatMap PD.cells:=by
     rw[yAs (by rw[aBW,hlen];simp)];simp
    rw[hcs]at f2;have hfl:cells'.toList.length=len*n:=by rw[f2.1,FM ps (λq hq=>(hps q hq).1),hlen]
    refine⟨e,cells',hu,?_,λw'' fz hgr hnew=>?_⟩
    .have hln:¬(len*n > 2^24):=by omega
     obtain⟨i',hi',hsz⟩:=aBU hn;have hfz:Instr.fill (λi=>some (i*n,n)) ((Array.range (len*n)).map λk=>(if len*n=0 then(#[]:Array Value)else zv.cells)[k%(if len*n=0 then(#[]:Array Value)else zv.cells).size]!) vparts=some cells':=by
      by_cases h0:len*n=0
      .simp only[h0,yAK];have:c0=#[]:=by simp[c0,h0]
       rw[this]at f1;rw[show(Array.range 0)=#[]from rfl];simpa using f1
      .simp only[h0,yAN];exact f1
     simp only[Instr.buildSlice,yBb,yAM hu,yBg,oH hn,yAI hln]
     by_cases h0:len*n=0
     .simp only[h0,yAK]at hfz ⊢;simp only[yBb,yBo,yBg,hfz];simp[newRow]
     .simp only[h0,yAN]at hfz ⊢;have K3:(zeroValue e).run P c.w=.ok zv c.w:=Gt;simp only[yBb,yBo,yBg,K3,hfz];simp[newRow]
    .have nx:Nx 0 c (c.at w''):=Nx.grow hs hgr;refine .slice (some ⟨c.w.heap.size,0,none⟩) len len n ps .full cells'.toList hlen.symm (yAk _) ?_ (λq hq=>(hps q hq).1) hfl f3 ?_ (λj v d q1 q2=>(f2.2 j v d q1 q2).mono nx) rfl
     .have:len<=len*n:=Nat.le_mul_of_pos_right _ hn0;simp only[maxLen];omega
     .intro j v hv;have hadd:(⟨c.w.heap.size,0,none⟩:Addr).add j=⟨c.w.heap.size,j,none⟩:=Cr;refine⟨_,rfl,?_,?_⟩
      .rw[hadd];show w''.cell? _=_
       simp only[World.cell?,hnew];simpa using hv
      .exact ij
   .exact ak
  .exact ak
 .exact ak
theorem aIl(hs:Sr c){t:TypeId}{len:Nat}{parts:List (Nat×PD)}{vparts:List (Nat×Value)}{p:PD}(h:uV P t len parts=some p)(hl:vparts.length=parts.length)
  (hp:∀(i:Nat) (jv:Nat×Value) (jp:Nat×PD),vparts[i]?=some jv->parts[i]?=some jp->jv.1=jp.1/\VR c jv.2 jp.2) :
  ∃v w',(Instr.buildSlice t len vparts.toArray).run P c.w=.ok v w'/\Leaves fl c p c.σ v w':=by
 obtain⟨e,cells',hu,hr,hv⟩:=aBN hs h hl hp;have hgr:=zK c.w (.cells cells' e);exact⟨_,_,hr,c.at (c.w.alloc (.cells cells' e)),rfl,rfl,Sr.grow hs hgr,Nx.grow hs hgr,hv _ (0,0) hgr (yC _ _),λ_ h=>.inl h⟩
theorem run_mark{t e:TypeId}(w:World)(cs:Array Value)(n cap:Nat)(hu:P.underlying t=some (.slice e))(he:P.underlying e=some (.int .u8)) :
  (convert t t (.slice (some ⟨w.heap.size,0,none⟩) n cap)).run P (w.alloc (.cells cs e))=.ok (.slice (some ⟨w.heap.size,0,none⟩) n cap) ((w.alloc (.cells cs e)).freeze ⟨w.heap.size,cs.size,none⟩ 1):=by
 have hsh:(w.alloc (.cells cs e)).shape? w.heap.size=some (e,cs.size):=by simp[World.shape?,World.alloc,-World.alloc_eq]
 simp[convert,yAM hu,yAM he,markStringish,hsh,Result.andThen]
theorem aIg(w:World)(e:TypeId)(cs:Array Value):∃fz,((w.alloc (.cells cs e)).freeze ⟨w.heap.size,cs.size,none⟩ 1).heap[w.heap.size]?=some (.cells cs e fz):=by
 refine⟨(cs.size,cs.size+1),?_⟩;simp[World.freeze,World.alloc,-World.alloc_eq];rw[Array.getElem_modify_self];simp
theorem aIf(w:World)(e:TypeId)(cs:Array Value):w.grownBy ((w.alloc (.cells cs e)).freeze ⟨w.heap.size,cs.size,none⟩ 1) none where
 os:=rfl
 tape:=rfl
 output:=rfl
 size:=by simp[World.freeze,World.alloc,-World.alloc_eq]
 block:=λk hk _=>by
  have h1:w.heap.size≠k:=Cd;simp[World.freeze,World.alloc,-World.alloc_eq,yDz,Array.getElem?_push,h1,yAU h1]
theorem aIM(w:World)(e:TypeId)(s:ByteArray):w.grownBy (Lib.bytesWorld w e s) none where
 os:=rfl
 tape:=rfl
 output:=rfl
 size:=by rw[Lib.bytesWorld_size];omega
 block:=λk hk _=>Lib.bytesWorld_at_old w e s k hk
theorem UH:∀ {xs:Jk} {l:Jl},FD xs=some l->∃ns:List Int,xs=ns.map (PD.int .u8)/\l=ns.map λn=>UInt8.ofNat n.toNat
 | [],l,h=>by simp only[FD,yAb]at h;subst h;exact⟨[],rfl,rfl⟩
 |x::xs,l,h=>by
  unfold FD at h;split at h
  .rename_i h0;cases h0
  .rename_i n r h0;simp only[yCv]at h0;obtain⟨rfl,rfl⟩:=h0;split at h
   .rename_i l' hl;simp only[yAb]at h;obtain⟨ns,rfl,rfl⟩:=UH hl;exact⟨n::ns,rfl,h.symm⟩
   .cases h
  .cases h
theorem UI:∀(ns:List Int) (s:ByteArray),ns.foldl (λr n=>r.push (UInt8.ofNat n.toNat)) s=⟨s.data++(ns.map λn=>UInt8.ofNat n.toNat).toArray⟩
 | [],s=>Ce
 |n::ns,s=>by
  rw[yDp,UI ns];simp[ByteArray.push]
theorem aIm(hs:Sr c){s d:TypeId}{x p:PD}(h:KA P s d x=some p){vx:Value}(hx:VR c vx x):∃v w',(convert s d vx).run P c.w=.ok v w'/\Leaves fl c p c.σ v w':=by
 unfold KA at h;split at h
 .rename_i e l hu hd;split at h
  .rename_i he;split at h
   .rename_i hl;simp only[yAb]at h;subst h;have hv:=hx.tX;subst hv;have hsz:(ByteArray.mk l.toArray).size=l.length:=Gr;have hgr:=aIM c.w e ⟨l.toArray⟩;have r:=Lib.run_convert_string_bytes (P:=P) c.w s d e ⟨l.toArray⟩ hu hd he;have hge:=yDv c.w l.length 0 e;have hcm:=yDK c.w l.length 0 e hl;rw[hsz]at r;refine⟨_,_,r,c.at (Lib.bytesWorld c.w e ⟨l.toArray⟩),rfl,rfl,Sr.grow hs hgr,Nx.grow hs hgr,?_,λ_ h=>.inl h⟩;refine .slice (some ⟨c.w.heap.size,0,none⟩) l.length _ 1 _ .any (l.map λb=>Value.int .u8 b.toNat) Ce hge hcm (λq hq=>?_) Ce (λv hv=>?_) (λj v hv=>?_) (λj v q q1 q2=>?_) trivial
    .obtain⟨b,_,rfl⟩:=yAw.1 hq;rfl
    .obtain⟨b,_,rfl⟩:=yAw.1 hv;rfl
    .have hadd:(⟨c.w.heap.size,0,none⟩:Addr).add j=⟨c.w.heap.size,j,none⟩:=by unfold Addr.add;split<;>simp_all
     refine⟨_,rfl,?_,?_⟩
     .rw[hadd];have hj:j<l.length:=by simpa using(yA.1 hv).1
      have:=Lib.bytesWorld_cell c.w e ⟨l.toArray⟩ j (by rw[hsz];exact hj);show(Lib.bytesWorld c.w e ⟨l.toArray⟩).cell? _=_
      rw[this];rw[yAo,yAh hj]at hv;simp only[yAC,yAb]at hv;rw[<-hv];simp[List.getD,hj]
     .exact ij
    .have e1:∀l:List UInt8,(l.map λb=>PD.int .u8 b.toNat).flatMap PD.cells=l.map λb=>PD.int .u8 b.toNat:=by
      intro l
      induction l with
      |nil=>rfl
      |cons b l ih=>
       simp only[yAV,yBx,ih];rfl
     rw[e1,yAo]at q2;rw[yAo]at q1;cases hj:l[j]? with
     |none=>rw[hj]at q1;cases q1
     |some b=>
      rw[hj]at q1 q2;simp only[yAC,yAb]at q1 q2;subst q1 q2;exact ja
   .cases h
  .cases h
 .rename_i e sz xs tok hu hd;split at h
  .rename_i he;split at h
   .rename_i hsz;split at h
    .rename_i l hl;simp only[yAb]at h;subst h;obtain⟨A,cap,fA,rfl,h2,h3,h4,h5,h6,h7,h8,h9⟩:=hx.pJ;obtain⟨ns,rfl,rfl⟩:=UH hl;rw[yAe]at h2 h5 hsz ⊢;have hfl:fA=ns.map (Value.int .u8):=by
      have hlen:fA.length=ns.length:=by
       rcases hsz with h|h
       .rw[h5,h];simp
       .rw[h5,h];simp
      refine yCo λj=>?_
      by_cases hj:j<ns.length
      .have e1:((ns.map (PD.int .u8)).flatMap PD.cells)[j]?=some (.int .u8 ns[j]):=by
        have:∀ns:List Int,(ns.map (PD.int .u8)).flatMap PD.cells=ns.map (PD.int .u8):=by
         intro ns
         induction ns with
         |nil=>rfl
         |cons b l ih=>
          simp only[yAV,yBx,ih];rfl
        rw[this,yAo,yAh hj];rfl
       have:=(h8 j fA[j] _ (yAh Cd) e1).qV;rw[yAh (show j<fA.length by omega),yAo,yAh hj,this];rfl
      .rw[yBy Cd,yBy Co]
     subst hfl;have hrun:(convert s d (.slice A ns.length cap)).run P c.w=.ok (.string ⟨(ns.map λn=>UInt8.ofNat n.toNat).toArray⟩) c.w:=by
      rw[run_convert_bytes_string c.w s d e A ns.length cap hu he hd];cases A with
      |none=>
       have:ns=[]:=by
        cases ns with
        |nil=>rfl
        |cons n ns=>
         obtain⟨ad,e',_⟩:=h7 0 _ rfl;cases e'
       subst this;simp[Conv.bytesToString,yBo];rfl
      |some a=>
       rw[run_bytesToString c.w a ns.length cap ns (DC Ce (λj v hj=>by
        obtain⟨ad,e',h10,_⟩:=h7 j v hj;cases e';exact h10)),UI]
       simp
     exact⟨_,_,hrun,c,rfl,rfl,hs,.refl _ _,.str _,λ_ h=>.inl h⟩
    .cases h
   .cases h
  .cases h
 .cases h
end
end
section
open Go.RowKit
section
variable{P:Program}{c:Cx}{fl:Nat}
theorem aIH(z:PD)(n l:Nat):(wS z n l).length=l*n:=by simp[wS]
theorem aII{zv:Value}{z:PD}{n:Nat}(hz:VR c zv z)(hn:z.cells.length=n)(hn0:0<n)(l:Nat):aZ c (madeCells zv.cells (l*n)).toList (wS z n l):=by
 have hzc:=hz.cells;have hzs:zv.cells.size=n:=Gx;refine⟨by simp[madeCells,wS],λk v d hv hd=>?_⟩;simp only[madeCells,wS,yDt,yDu,yAo]at hv hd;cases hk:(List.range (l*n))[k]? with
 |none=>simp[hk]at hv
 |some k'=>
  exact iu
theorem aIJ{zv:Value}{z:PD}{n:Nat}(hz:VR c zv z)(hn:z.cells.length=n)(hn0:0<n)(hp:z.cells.all PD.plain=true)(l:Nat):∀v∈(madeCells zv.cells (l*n)).toList,v.oneCell'=true:=by
 have hzc:=hz.cells;have hzs:zv.cells.size=n:=Gx;have hz1:∀v∈zv.cells.toList,v.oneCell'=true:=aZ.zM hzc hp;intro v hv;simp only[madeCells,yDt,yDu,yAw]at hv;exact ou
theorem aIK{z:PD}{n l:Nat}(hn:z.cells.length=n)(hn0:0<n):(List.replicate l z).flatMap PD.cells=wS z n l:=by
 have hx:∀x∈List.replicate l z,x.cells.length=n:=λx hx=>by rw[(List.mem_replicate.1 hx).2];exact hn
 have hl:((List.replicate l z).flatMap PD.cells).length=l*n:=by rw[FM _ hx,List.length_replicate]
 refine yCo λj=>?_
 by_cases hj:j<l*n
 .have hi:j/n<l:=Nat.div_lt_of_lt_mul (by rw[Nat.mul_comm];exact hj);have hm:j%n<n:=yBC _ hn0;have:=UF n (List.replicate l z) hx (j/n) z (by simp[hi]) (j%n) hm;rw[Nat.div_add_mod']at this;rw[this];simp only[wS,yAo,List.getElem?_range hj,yAC];rw[yAh Cd];simp[List.getD,show j%n<z.cells.length by omega]
 .rw[yBy Cd,yBy (by rw[aIH];omega)]
theorem aIo(hs:Sr c){t e:TypeId}{l k:Nat}{p:PD}{σ':Jj}(hu:P.underlying t=some (.slice e))(h:uU P c.σ t e l k=some (p,σ'))(kl kk:IntKind) :
  ∃v w',(Instr.makeSlice t (.int kl (l:Int)) (.int kk (k:Int))).run P c.w=.ok v w'/\Leaves fl c p σ' v w':=by
 unfold uU at h;split at h
 .rename_i i n z hi hn hz;split at h
  .rename_i hc;obtain⟨hlk,hn0,hzl,hzp,hmax,hby⟩:=hc;obtain⟨zv,i',hi',hzv,hzr⟩:=FK (c:=c) hz;rw[hi]at hi';obtain rfl:=yAS hi';obtain⟨i',hi',hsz⟩:=aBU hn;rw[hi]at hi';obtain rfl:=yAS hi';have hmx:(k:Int)<=9223372036854775807:=Gs;have hb':(i.bytes:Int)*(k:Int)<=281474976710656:=by
    have:((i.bytes*k:Nat):Int)<=281474976710656:=by rw[Nat.mul_comm];omega
    rwa [Int.natCast_mul]at this
   have hr:=run_make (P:=P) c.w t e i zv hu hi hzv kl kk l k Cd Cd hb' hmx;simp only[yBj]at hr;rw[hsz]at hr;have hgr:=zK c.w (.cells (madeCells zv.cells (k*n)) e);have hnew:=yC c.w (.cells (madeCells zv.cells (k*n)) e);have hsize:(madeCells zv.cells (k*n)).size=k*n:=size_madeCells _ _;split at h
   .rename_i h0;obtain⟨rfl,hk0⟩:=h0;simp only[yAb,yAc]at h;obtain⟨rfl,rfl⟩:=h;have hown:(c.w.alloc (.cells (madeCells zv.cells (k*n)) e)).ownsRowF 0 e n (.slice (some ⟨c.w.heap.size,0,none⟩) 0 k) 0 []:=
     ⟨Ce,.inr ⟨c.w.heap.size,k,_,(0,0),rfl,yAF _,hnew,yAF _,yAF _,hmax,hsize,Ce⟩⟩
    have hbk:∀b,bI (.slice (some ⟨c.w.heap.size,0,none⟩) 0 k)=some b->c.w.heap.size<=b:=λb hb=>Gy
    refine⟨_,_,hr,c.push (c.w.alloc (.cells (madeCells zv.cells (k*n)) e)) (.slice (some ⟨c.w.heap.size,0,none⟩) 0 k) (.own e n 0),rfl,rfl,?_,Nx.push hs hgr hbk,?_,?_⟩
    .exact Sr.push hs hgr (λb hb=>⟨hbk b hb,UG hown hb⟩) ⟨_,hown⟩
    .exact .slice (some ⟨c.w.heap.size,0,none⟩) 0 k n [] (.own c.σ.length) [] rfl (yAF _) hmax Ce Ce Ce Ce Ce ⟨.inr rfl,e,0,iU.1,yAk _,λ_=>iU.2.1⟩
    .exact dm
   .split at h
    .rename_i aIL;subst aIL;have hcv:=aII (c:=c) hzr hzl hn0 l;have eQ:=aIJ (c:=c) hzr hzl hn0 hzp l;split at h
     .simp only[yAb,yAc]at h;obtain⟨rfl,rfl⟩:=h;have hbk:∀b,bI (.pointer (some ⟨c.w.heap.size,0,none⟩))=some b->c.w.heap.size<=b/\b<(c.w.alloc (.cells (madeCells zv.cells (l*n)) e)).heap.size:=λb hb=>by
       simp[bI]at hb;subst hb;simp
      refine⟨_,_,hr,c.push (c.w.alloc (.cells (madeCells zv.cells (l*n)) e)) (.pointer (some ⟨c.w.heap.size,0,none⟩)) (.box (.agg (wS z n l))),rfl,rfl,?_,Nx.push hs hgr (λb hb=>(hbk b hb).1),?_,?_⟩
      .exact Sr.push hs hgr hbk ⟨_,madeCells zv.cells (l*n),e,rfl,hnew,hcv,eQ,λt ds e=>Dc⟩
      .exact .eD _ _ _ _ _ _ (.inr rfl) ⟨_,iU.1⟩ iU.2.1 (yAk _) hmax
      .exact dm
     .simp only[yAb,yAc]at h;obtain⟨rfl,rfl⟩:=h;have nx:Nx 0 c (c.at (c.w.alloc (.cells (madeCells zv.cells (l*n)) e))):=Nx.grow hs hgr;refine⟨_,_,hr,c.at (c.w.alloc (.cells (madeCells zv.cells (l*n)) e)),rfl,rfl,Sr.grow hs hgr,Nx.grow hs hgr,?_,λ_ h=>.inl h⟩;refine .slice (some ⟨c.w.heap.size,0,none⟩) l l n _ .full (madeCells zv.cells (l*n)).toList Ce (yAk _) hmax (λq hq=>by rw[(List.mem_replicate.1 hq).2];exact hzl) (by simp[hsize]) eQ ?_ (λj v d q1 q2=>?_) (by simp[sH])
      .intro j v hv;have hadd:(⟨c.w.heap.size,0,none⟩:Addr).add j=⟨c.w.heap.size,j,none⟩:=Cr;refine⟨_,rfl,?_,?_⟩
       .rw[hadd];show(c.w.alloc (.cells (madeCells zv.cells (l*n)) e)).cell? _=_
        simp only[World.cell?,hnew];simpa using hv
       .exact ij
      .rw[aIK hzl hn0]at q2;exact(hcv.2 j v d q1 q2).mono nx
    .cases h
  .cases h
 .cases h
theorem aIn(hs:Sr c){s d:TypeId}{x p:PD}(h:C7 P c.σ s d x=some p){vx:Value}(hx:VR c vx x):∃v,(convert s d vx).run P c.w=.ok v c.w/\VR c v p:=by
 unfold C7 at h;split at h
 .rename_i xs e hxs hu hd;split at h
  .rename_i l he hl;simp only[yAb]at h;subst h;unfold BB at hxs;split at hxs
   .rename_i id off n size;split at hxs
    .split at hxs
     .rename_i q hq;split at hxs
      .rename_i hle;simp only[yAb]at hxs;subst hxs;obtain⟨b,cap,rfl,hD,_,hr,_,_⟩:=hx.FI;obtain⟨b',cs,T,e1,e2,e3,e4⟩:=hs.box id q hD hq;have hbb:b=b':=by
        rw[hr]at e1;simpa using e1
       subst hbb;obtain⟨ns,hns,rfl⟩:=UH hl;have hlen:ns.length=n:=by
        have:=yAL List.length hns;rw[yAt,yBa,yAe]at this;omega
       have hcut:=e3.take_drop off n;rw[hns]at hcut;have hfl:(cs.toList.drop off).take n=ns.map (Value.int .u8):=by
        refine yCo λj=>?_
        cases hj:ns[j]? with
        |none=>
         have hge:=yEf.1 hj;rw[yBy (by have:=hcut.1;rw[yAe]at this;omega),yBy Co]
        |some m=>
         obtain⟨v,sI,FO⟩:=hcut.get (i:=j) (d:=.int .u8 m) (by rw[yAo,hj];rfl);rw[sI,FO.qV,yAo,hj];rfl
       have hadd:∀j,(⟨b,off,none⟩:Addr).add j=⟨b,off+j,none⟩:=λj=>Cr
       refine⟨.string ⟨(ns.map λn=>UInt8.ofNat n.toNat).toArray⟩,?_,.str _⟩;rw[run_convert_bytes_string c.w s d e (some ⟨b,off,none⟩) n cap hu he hd];rw[run_bytesToString c.w ⟨b,off,none⟩ n cap ns (by
        rw[DC (cs:=ns.map (Value.int .u8)) (by simp[hlen]) (λj v hj=>by
         rw[hadd];simp only[World.cell?,e2];rw[<-hfl,yAv]at hj;split at hj
         .exact mg
         .cases hj)]),UI]
       simp
      .cases hxs
     .cases hxs
    .cases hxs
   .cases hxs
  .cases h
 .cases h
end
end
end Go.Kz
