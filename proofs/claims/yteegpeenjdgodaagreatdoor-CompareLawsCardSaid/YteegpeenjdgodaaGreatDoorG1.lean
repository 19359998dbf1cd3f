/- Steps of the proof. -/
import Derived.WalkKit
import Derived.Maps.AppendAt
import Derived.Lib.FrozenHead
import Derived.CallsIn
import Derived.Laws.StructEq
import Derived.Laws.Entries
import Derived.Laws.Tables
import Derived.ArgAppend
import Derived.Deep.DeepAppendRoom
import Derived.RangeFuncRecord
import Derived.Lib.ConvBytes
import Derived.Laws.BytesString
import Derived.Laws.MakeOwn
set_option linter.all false
set_option maxHeartbeats 40000000
set_option maxRecDepth 100000
namespace Go.Kz
section
variable{G:Prop}
theorem ag(h:G:=by
 simp(disch:=first|omega|(simp;done)|(simp;omega)) [yAu]<;>try rfl):G:=h
theorem ah(h:G:=by
 simp only at hokr ⊢
 rw[he]at k6
 simp only[he]
 obtain⟨bU,h4⟩:=gn (σ3.set 0 (.box (.agg [.str on,hR,hD,Q])))
 have t2:(bU++L5)[2]?=some (.box bX):=by
  rw[<-h4,yAg (by rw[yAD];omega),yAd (by omega)]
  exact u2
 have kE:∀R X,aY R bU ((bU++L5).set 2 X):=λR X=>(aY.app R bU L5).trans (aY.set t2 X)
 rw[h4]at m1 m2 m3 k6
 have a0:bU[0]?=some (.box (.agg [.str on,hR,hD,Q])):=by rw[<-h4,yAj r0]
 obtain⟨a1,a2⟩:=yA.1 a0
 unfold bX at t2
 obtain⟨t3,t4⟩:=yA.1 t2
 by_cases hz:e=0
 .subst hz
  rw[yAJ rfl]at k6
  refine aC (A20 @g0 @g1 @g2 @v0 y0 @v1 y1 @v2 y2 @i1 @i2 h5 k5 u0 u1 u2 r0 x0 r1 (A20 x1 r2 x2 pQ cQ pR pD pC cR cD cC h4 @a0 a1 @a2 h6 k6 @t2 @t3 @t4)) ?_
  refine⟨.aI [.agg [.str on,hR,hD,Q],.int .i64 0],(bU++L5).set 2 (.box (.agg [.str on,hR,hD,Q])),?_,.inr ⟨by omega,i2,hR,hD,Q,rfl,m1.aQ (kE _ _),m2.aQ (kE _ _),m3.aQ (kE _ _)⟩⟩
  have dB:=t3
  rw[yAa]at dB
  simp[cI,dB]
 .rw[yAI hz]at k6
  unfold bX at k6
  refine aC (A20 @g0 @g1 @g2 @v0 y0 @v1 y1 @v2 y2 @i1 @i2 h5 k5 u0 u1 u2 r0 x0 r1 (A20 x1 r2 x2 pQ cQ pR pD pC cR cD cC h4 @a0 a1 @a2 h6 k6 @t2 @t3 @t4)) ?_
  refine⟨.aI [bX,.int .i64 e],(bU++L5).set 2 (.box bX),?_,.inr ⟨by omega,i2,hR,hD,Q,by rw[yAI hz],m1.aQ (kE _ _),m2.aQ (kE _ _),m3.aQ (kE _ _)⟩⟩
  have dB:=t3
  rw[yAa]at dB
  simp[cI,dB,bX]):G:=h
theorem ai(h:G:=by
 rw[he]at k6
 simp only[he]
 obtain⟨cL,jH⟩:∃s,bU.set 0 (.box (.agg [.str on,Q,hD,hC]))=s:=⟨_,rfl⟩
 have t2:(cL++L5)[2]?=some (.box bX):=by
  rw[<-jH,yAg (by rw[yAD];omega),yAd (by omega)]
  exact s2
 have kE:∀R X,aY R cL ((cL++L5).set 2 X):=λR X=>(aY.app R cL L5).trans (aY.set t2 X)
 rw[jH]at m1 m2 m3 k6
 have a0:cL[0]?=some (.box (.agg [.str on,Q,hD,hC])):=by rw[<-jH,yAj f0]
 obtain⟨a1,a2⟩:=yA.1 a0
 unfold bX at t2
 obtain⟨t3,t4⟩:=yA.1 t2
 rw[jH]
 by_cases hz:e=0
 .subst hz
  rw[yAJ rfl]at k6
  refine aC (A16 pQ cQ pR pD pC cR cD cC @a0 a1 @a2 h6 k6 @t2 @t3 @t4) ?_
  refine⟨.aI [.agg [.str on,Q,hD,hC],.int .i64 0],(cL++L5).set 2 (.box (.agg [.str on,Q,hD,hC])),?_,.inr (.inr ⟨ow,by omega,i2,Q,hD,hC,rfl,m1.aQ (kE _ _),m2.aQ (kE _ _),m3.aQ (kE _ _)⟩)⟩
  have dB:=t3
  rw[yAa]at dB
  simp[cI,dB]
 .rw[yAI hz]at k6
  unfold bX at k6
  refine aC (A16 pQ cQ pR pD pC cR cD cC @a0 a1 @a2 h6 k6 @t2 @t3 @t4) ?_
  refine⟨.aI [bX,.int .i64 e],(cL++L5).set 2 (.box bX),?_,.inr (.inr ⟨ow,by omega,i2,Q,hD,hC,by rw[yAI hz],m1.aQ (kE _ _),m2.aQ (kE _ _),m3.aQ (kE _ _)⟩)⟩
  have dB:=t3
  rw[yAa]at dB
  simp[cI,dB,bX]):G:=h
theorem aj(h:G:=by
 rw[he]at k6
 simp only[he]
 obtain⟨cL,jH⟩:∃s,bU.set 0 (.box (.agg [.str on,hR,Q,hC]))=s:=⟨_,rfl⟩
 have t2:(cL++L5)[2]?=some (.box bX):=by
  rw[<-jH,yAg (by rw[yAD];omega),yAd (by omega)]
  exact s2
 have kE:∀R X,aY R cL ((cL++L5).set 2 X):=λR X=>(aY.app R cL L5).trans (aY.set t2 X)
 rw[jH]at m1 m2 m3 k6
 have a0:cL[0]?=some (.box (.agg [.str on,hR,Q,hC])):=by rw[<-jH,yAj f0]
 obtain⟨a1,a2⟩:=yA.1 a0
 unfold bX at t2
 obtain⟨t3,t4⟩:=yA.1 t2
 rw[jH]
 by_cases hz:e=0
 .subst hz
  rw[yAJ rfl]at k6
  refine aC (A16 pQ cQ pR pD pC cR cD cC @a0 a1 @a2 h6 k6 @t2 @t3 @t4) ?_
  refine⟨.aI [.agg [.str on,hR,Q,hC],.int .i64 0],(cL++L5).set 2 (.box (.agg [.str on,hR,Q,hC])),?_,.inr (.inr ⟨ow,by omega,i2,hR,Q,hC,rfl,m1.aQ (kE _ _),m2.aQ (kE _ _),m3.aQ (kE _ _)⟩)⟩
  have dB:=t3
  rw[yAa]at dB
  simp[cI,dB]
 .rw[yAI hz]at k6
  unfold bX at k6
  refine aC (A16 pQ cQ pR pD pC cR cD cC @a0 a1 @a2 h6 k6 @t2 @t3 @t4) ?_
  refine⟨.aI [bX,.int .i64 e],(cL++L5).set 2 (.box bX),?_,.inr (.inr ⟨ow,by omega,i2,hR,Q,hC,by rw[yAI hz],m1.aQ (kE _ _),m2.aQ (kE _ _),m3.aQ (kE _ _)⟩)⟩
  have dB:=t3
  rw[yAa]at dB
  simp[cI,dB,bX]):G:=h
theorem ak(h:G:=by
 simp at h):G:=h
theorem aq(h:G:=by
 simp(disch:=first|omega|(simp;done)|(simp;omega)) [yAu,bY]<;>try rfl):G:=h
theorem au(h:G:=by
 obtain⟨hno,lO,cJ⟩:=hbf rfl
 have u2:=(cJ 2 (by omega)).trans g2
 obtain⟨r2,x2⟩:=yA.1 u2
 refine aC (A16 @g0 @g1 @g2 @v0 y0 @v1 y1 @v2 y2 @i1 @i2 h7 k7 u2 r2 x2) ?_
 exact⟨.aI [bK,.int .i64 14],σ3.set 2 (.box bK),by simp[cI,r2,bK],.inr (.inl ⟨hno,by omega,i2,rfl⟩)⟩):G:=h
theorem ax(h:G:=by
 rcases h8 with⟨rfl,x1⟩ | ⟨rfl,x1⟩ | ⟨rfl,x1⟩ | ⟨rfl,x1⟩ | ⟨rfl,x1⟩ | x1
 all_goals
  have hz:=h0
  refine aJ.aN 145 h0 func16 (h:=?_)
  refine aC (A18 h1 k1 h2 k2 h3 k3 hnl hwn hnq hnd hdl hxe mH c0 b1 @g1 @g2 x1) ?_
  simp(disch:=first|omega|(simp;done)|(simp;omega)) [yAu,c0,b1,g1,g2,x1,oY,wh,mB,hL,mR,dK,bS,dN,eD,cU,sz]<;>try rfl):G:=h
theorem ay(h:G:=by
 exact⟨_,_,rfl,rfl,rfl⟩):G:=h
theorem az(h:G:=by
 refine aL.aN 48 h0 func80 (h:=?_)
 apply WL.zF (by decide +kernel)
 apply SL.box (p:=.agg [.int .i64 k,.int .i64 d,.int .i64 i,.str wQ,.str rn,.str rt,.int .i64 ra,.int .i64 rb,.int .i64 rf,.slice wk W .any,.str fn,.bool fp,.int .i64 fl,.int .i64 fh,.slice sk S .any,.str sn,.int .i64 sa,.int .i64 sb,.slice gk G .any,.str cn,.int .i64 ca,.int .i64 cb,.int .i64 cs,.bool ct]) (hw:=Wt.i rfl) (hx:=rfl) (hp:=rfl) (hr:=Ns.i rfl) (hn:=Ns.i rfl) (hf:=Fr.i rfl)
 apply SL.box (p:=.agg [.str nm,hR,hD,hC]) (hw:=Wt.i rfl) (hx:=rfl) (hp:=by simp[pR,pD,pC]) (hr:=Ns.i rfl) (hn:=Ns.i rfl) (hf:=Fr.i rfl)
 refine oU lD ?_
 apply SQ.nil
 refine aC (A3 h1 hW lD) ?_
 exact⟨_,_,rfl,rfl,_,rfl⟩):G:=h
theorem bf(h:G:=by
 refine aC (A11 @g0 @g1 @g2 @v0 y0 @v1 y1 @v2 y2 @i1 @i2) ?_
 exact⟨.aI [bK,.int .i64 10],σ2.set 2 (.box bK),by simp[cI,v2,bK],.inl ⟨.inr i2,rfl⟩⟩):G:=h
theorem bg(h:G:=by
 refine aC (A10 @g0 @g1 @g2 @v0 y0 @v1 y1 @v2 y2 @i1) ?_
 exact⟨.aI [bK,.int .i64 10],σ2.set 2 (.box bK),by simp[cI,v2,bK],.inl ⟨.inl i1,rfl⟩⟩):G:=h
theorem bh(h:G:=by
 have cX:¬(l.length:Int)=(r.length:Int):=by omega
 have hF:=rX hq
 refine aC (A2 @hq cX) ?_
 simp(disch:=first|omega|(simp;done)|(simp;omega)) [yAu,hF]<;>try rfl):G:=h
theorem bl(h:G:=by
 refine bV.normal (m-1) (by omega) (by refine⟨i+1,?_⟩;exact cF (⟨by omega,hs⟩))):G:=h
theorem bp(h:G:=by
 rw[he]at k6
 simp only[he]
 have XB:3<=iD:=hDlo
 have a0:cL[0]?=some (.box (.agg [.str on,hR,.aR iD 0 0 dd.length 5,hC])):=by rw[g6 0 (by omega)];exact s0
 obtain⟨a1,a2⟩:=yA.1 a0
 have t2:(cL++L5)[2]?=some (.box bX):=by
  refine cE ?_
  rw[g6 2 (by omega)]
  exact s2
 have kE:∀R X,aY R cL ((cL++L5).set 2 X):=λR X=>(aY.app R cL L5).trans (aY.set t2 X)
 unfold bX at t2
 obtain⟨t3,t4⟩:=yA.1 t2
 have dB:=t3
 rw[yAa]at dB
 by_cases hz:e=0
 .subst hz
  rw[yAJ rfl]at k6
  refine aC (A12 pR pC cR cC @a0 a1 @a2 h6 k6 @t2 @t3 @t4) ?_
  refine⟨.aI [.agg [.str on,hR,.aR iD 0 0 dd.length 5,hC],.int .i64 0],(cL++L5).set 2 (.box (.agg [.str on,hR,.aR iD 0 0 dd.length 5,hC])),?_,.inr ⟨hix,hR,_,hC,rfl,m1.aQ (kE _ _),m2.aQ (kE _ _),m3.aQ (kE _ _)⟩⟩
  simp[cI,dB]
 .rw[yAI hz]at k6
  unfold bX at k6
  refine aC (A12 pR pC cR cC @a0 a1 @a2 h6 k6 @t2 @t3 @t4) ?_
  refine⟨.aI [bX,.int .i64 e],(cL++L5).set 2 (.box bX),?_,.inr ⟨hix,hR,_,hC,by rw[yAI hz],m1.aQ (kE _ _),m2.aQ (kE _ _),m3.aQ (kE _ _)⟩⟩
  simp[cI,dB,bX]):G:=h
theorem bq(h:G:=by
 show w'.heap[b']?=_
 rw[h1 b' (gJ e2) (λh=>hs.inj i id b' hi hd e' (by rw[e1];rfl) h)]
 exact e2):G:=h
theorem bt(h:G:=by
 refine aC @hm ?_
 exact⟨_,_,rfl,rfl⟩):G:=h
theorem bu(h:G:=by
 have hp:∀q x,mB (fV kd) q x=x:=λq x=>by rw[wh];rfl
 rcases h8 with⟨rfl,x1⟩ | ⟨rfl,x1⟩ | ⟨rfl,x1⟩ | ⟨rfl,x1⟩ | ⟨rfl,x1⟩ | x1
 all_goals
  have hz:=h0
  refine aJ.aN 145 h0 func16 (h:=?_)
  refine aC (A16 h1 k1 h2 k2 h3 k3 hnl hwn hnq hnd hdl hxe mH c0 @g1 x1) ?_
  simp(disch:=first|omega|(simp;done)|(simp;omega)) [yAu,c0,g1,x1,oY,hp,hL,mR,dK,bS,dN,eD,cU,sz]<;>try rfl):G:=h
theorem bw(h:G:=by
 have:=hO.aQ (σ':=σ2) (λid y h3 hy=>by
  have h3:3<=id:=h3
  rw[dL,yAg (by rw[yAD];exact(yA.1 hy).1),yAd (by omega)]
  exact hy)
 exact this):G:=h
theorem bx(h:G:=by
 exact⟨_,_,rfl,rfl⟩):G:=h
theorem bz(h:G:=by
 exact⟨rfl,rfl,j6 trivial (by(first|rfl|(simp[];repeat(first|rfl|(apply And.intro)))|(simp[];done))) (by(first|rfl|(simp[];repeat(first|rfl|(apply And.intro)))|(simp[];done)))⟩):G:=h
theorem cg(h:G:=by
 simp(disch:=first|omega|(simp;done)|(simp;omega)) [yAu,hs]<;>try rfl):G:=h
theorem cj(h:G:=by
 refine aC (A8 q1 q2 hi hir ha @hb j0 j1) ?_
 first|refine Wp.seq ?_|skip
 apply Wp.mZ
 refine kH (A4 h1 hE j0 j1) ?_
 apply SQ.nil
 refine aC q1 ?_
 refine bV.normal (m-1) (by omega) ⟨i+1,_,cF (⟨by omega,hs⟩)⟩):G:=h
theorem cm(h:G:=by
 rw[h2.int_eq]
 obtain⟨⟨cs,T,fz,hheap,hh⟩,_⟩:=hs.jQ.2 0 rfl
 have hcs:=hh.1 .u64 _ rfl
 have htab:Lib.TabIs prog c.w "internal/strconv.uint64pow10" .u64 Lib.pow10Tab:=by
  unfold Lib.TabIs World.var?
  have hg:prog.globalNamed "internal/strconv.uint64pow10" = some 0:=by kernel_rfl
  rw[hg]
  simp only[yCI,hheap]
  rw[hcs]
  rfl
 refine yBA (Tryz.strconv_Itoa n h0 h1 c.w htab) λe w' he=>?_
 obtain⟨rfl,k,os,rfl⟩:=he
 exact⟨_,rfl,⟨rfl,rfl,rfl,by simp[Go.Sort.grow],λi hi _=>by simp[Go.Sort.grow,yEm,hi]⟩,λ_=>.str _⟩):G:=h
theorem cr(h:G:=by
 simpa using this):G:=h
theorem cu(h:G:=by
 rw[yBd hb]at hE
 refine aC (A3 q1 hi ha) ?_
 first|refine Wp.seq ?_|skip
 apply Wp.mZ
 refine kH (A4 h1 hE hi ha) ?_
 apply SQ.nil
 refine aC q1 ?_
 refine bV.normal (m-1) (by omega) (by refine⟨i+1,?_⟩;exact eS (⟨by omega,hs,by omega⟩) @GM)):G:=h
theorem cv(h:G:=by
 show(c.w.putObj b x').heap[b']?=_
 rw[yCL (λe'=>hs.inj i id b' hi hd e (by rw[e1];rfl) (by rw[e'];exact hb))]
 exact e2):G:=h
theorem cw(h:G:=by
 refine aL.of he ⟨_,by simp only[bE,yBu,yBx];rfl,?_⟩
 refine F1 trivial ?_
 apply SQ.nil
 refine kG.normal ?_
 refine aC trivial ?_
 refine bV.normal (m-1) (by omega) (by refine⟨n,σ1,?_⟩;exact cF (⟨by omega,by omega,jE⟩))):G:=h
theorem cy(h:G:=by
 have hu1:=AQ
 simp(disch:=first|omega|(simp;done)|(simp;omega)) [yAu,rO,hu1]<;>try rfl
 first|exact⟨by kernel_rfl,rfl,rfl⟩ | exact⟨by kernel_rfl,rfl⟩):G:=h
theorem cz(h:G:=by
 unfold iM at hi
 split at hi
 .rename_i i h1
  split at hi
  .rename_i z0 h2
   split at hi
   .rename_i h3
    simp only[yAb,yAc]at hi
    obtain⟨rfl,rfl⟩:=hi
    have hmm:xs.length<=maxLen:=by simp only[maxLen];omega
    have hne:¬xs.length=0:=by omega
    have hone:=ho i z0 h1 h2
    have hfr:Tok.full.fresh=true:=rfl
    simp only[fR,ht,yAL,hu,vY,h1,h2,hz,yCa,h3.1,h3.2,hone,yBy,yAQ,true_or,hmm,hb,hfr,hne,yAN,yAO,yAp]
   .cases hi
  .cases hi
 .cases hi):G:=h
theorem de(h:G:=by
 have wh:fV kd=-1:=by unfold fV;rw[yAI c0];rw[yAJ (by omega)]
 have hp:∀q x,mB (fV kd) q x=x:=λq x=>by rw[wh];rfl
 rcases h8 with⟨rfl,x1⟩ | ⟨rfl,x1⟩ | ⟨rfl,x1⟩ | ⟨rfl,x1⟩ | ⟨rfl,x1⟩ | x1
 all_goals
  have hz:=h0
  refine aJ.aN 145 h0 func16 (h:=?_)
  refine aC (A17 h1 k1 h2 k2 h3 k3 hnl hwn hnq hnd hdl hxe mH c0 @g1 @g2 x1) ?_
  simp(disch:=first|omega|(simp;done)|(simp;omega)) [yAu,c0,g1,g2,x1,oY,hp,hL,mR,dK,bS,dN,eD,cU,sz]<;>try rfl):G:=h
theorem di(h:G:=by
 show w'.heap[b']?=_
 rw[h1 b' (λe'=>hs.inj i id b' hi hd e (by rw[e1];rfl) (by rw[e'];exact hb))]
 exact e2):G:=h
theorem dj(h:G:=by
 intro id hd
 rcases hd with hd|rfl
 .exact .inl hd
 .exact .inr ⟨yAk _,by simp⟩):G:=h
theorem dm(h:G:=by
 exact⟨_,_,hv,e1,λ_ _ h=>h⟩):G:=h
theorem dw(h:G:=by
 refine aC (A9 xk hr r7 y7 gK u7 j0 hi q1) ?_
 refine⟨_,_,rfl,rfl,?_⟩
 simp[dG]):G:=h
theorem dx(h:G:=by
 have hw:IntKind.i64.wrap (kd-1)=kd-1:=by rw[yAP];have:=hci.2;omega
 rw[<-hA,<-hB,hw,yCS (by omega),yBY (by omega)]
 exact⟨rfl,rfl⟩):G:=h
theorem dy(h:G:=by
 by_cases e:s=i
 .subst e
  simp only[yAL,hz]
  refine⟨?_,hst.aQ (by omega) λid o h1 h2=>by rw[jI id (by omega)];exact h2⟩
  rw[<-n8,yAj (by omega),kV]
 .simp only[e,yAN]
  obtain⟨d1,d2⟩:=hdone s h (by omega)
  refine⟨?_,d2.aQ (yAk _) λid o h1 h2=>by rw[jI id (by omega),E7 id (hlt _ _ h2)];exact h2⟩
  rw[<-n8,yAd (yAW e)]
  exact d1):G:=h
theorem dz(h:G:=by
 rw[hwy]at hp ⊢
 rcases hp with⟨hb,h2⟩ | ⟨EM,hb1,hb2,h2⟩ | ⟨EM,hb1,hb2,P1,P2,P3,h2,l1,l2,l3⟩
 .rw[yAI (λh:lM _ _ _=>by unfold lM at h;rcases hb with hb|hb<;>omega)]
  exact EL h1 h2
 .rw[yAJ (show lM _ _ _ from⟨hb1,by omega⟩),yAI EM]
  exact EL h1 h2
 .rw[yAJ (show lM _ _ _ from⟨hb1,by omega⟩),yAJ EM]
  exact KG h1 h2 l1 l2 l3):G:=h
theorem ec(h:G:=by
 refine aC (A20 q1 hi EY vt rT yT vg rG yG EX PM PN PQ hat h1 HO CN x8 kY (A3 j0 PR KM)) ?_
 refine⟨_,_,rfl,false,rfl,(λh=>by cases h),λ_=>⟨λhx=>?_,(by show B<=(σ++[_]).length;rw[yAa];omega),λid hid=>(by show(σ++[_])[id]?=_;rw[yAg (by omega)];exact hlow id hid)⟩⟩
 have hx1:=hx _ (yAm hi)
 rw[hc,hokw]at hx1
 cases hx1):G:=h
theorem ef(h:G:=by
 rcases h8 with⟨rfl,x1⟩ | ⟨rfl,x1⟩ | ⟨rfl,x1⟩ | ⟨rfl,x1⟩ | ⟨rfl,x1⟩ | x1
 all_goals
  have hz:=h0
  refine aJ.aN 145 h0 func16 (h:=?_)
  refine aC (A17 h1 k1 h2 k2 h3 k3 hnl hwn hnq hnd hdl hxe mH c0 b1 @g1 x1) ?_
  simp(disch:=first|omega|(simp;done)|(simp;omega)) [yAu,c0,b1,g1,x1,oY,wh,mB,hL,mR,dK,bS,dN,eD,cU,sz]<;>try rfl):G:=h
theorem ei(h:G:=by
 refine aC b1 ?_
 simp(disch:=first|omega|(simp;done)|(simp;omega)) [yAu,rO]<;>try rfl
 exact⟨rfl,rfl⟩):G:=h
theorem ek(h:G:=by
 unfold dW pB
 split
 .exact absurd ⟨rfl,rfl⟩ (h1 _ _ _ _)
 .exact absurd ⟨rfl,rfl⟩ (h2 _ _)
 .simp only
  split
  .rename_i b hb
   split at hb
   .exact absurd ⟨rfl,rfl⟩ (h3 _ _)
   .rw[h]at hb;rw[yAU hb]
  .rename_i hb
   split at hb
   .exact absurd ⟨rfl,rfl⟩ (h3 _ _)
   .rw[h]at hb;cases hb):G:=h
theorem ep(h:G:=by
 refine⟨v,w',.inl ?_,hl⟩
 simp only[execOp,resolve,invoke,builtin,yAZ,yBm,yBk]
 simp[r]):G:=h
theorem eu(h:G:=by
 have:xs≠[]:=λh=>by rw[h]at hp;simp at hp
 simp[gQ,this]):G:=h
theorem ew(h:G:=by
 have:(if cap=l then(some ⟨b,off,none⟩:Option Addr)else(some ⟨b,off,none⟩:Option Addr).map (·.add (l*n)))=some ⟨b,off+l*n,none⟩:=by
  split
  .have:l=0:=by omega
   subst this
   simp
  .simp[Addr.add]
 simp only[Instr.sliceAt,Instr.slice,yAZ,yAM hu,yBk,yDJ,b3,nG hn,yBm,this]):G:=h
theorem ey(h:G:=by
 unfold jX at h4
 rcases h4 with⟨rfl,rfl,rfl,rfl,rfl⟩ | ⟨rfl,rfl,rfl,rfl,rfl⟩ | ⟨rfl,rfl,rfl,rfl,rfl⟩ | ⟨rfl,rfl,rfl,rfl,rfl⟩<;>kernel_rfl):G:=h
theorem ez(h:G:=by
 intro i j b hi hj hne hb hb'
 by_cases e':i=id
 .subst e'
  rw[mQ]at hb
  rw[gA (yAW hne)]at hb'
  exact hoth j b hj (yAW hne) hb' hb
 .rw[gA e']at hb
  by_cases e'':j=id
  .subst e''
   rw[mQ]at hb'
   exact hoth i b hi e' hb hb'
  .rw[gA e'']at hb'
   exact hs.inj i j b hi hj hne hb hb'):G:=h
theorem fe(h:G:=by
 refine cell (by simp only[fQ,hu]) (λcs e=>?_)
 subst e
 simp[hu,Cell.okWide,Cell.ok]at hv):G:=h
theorem ff(h:G:=by
 exact⟨.aI [bK,.int .i64 10],σ2.set 2 (.box bK),by simp[cI,v2,bK],.inl ⟨by omega,rfl⟩⟩):G:=h
theorem fj(h:G:=by
 simp(disch:=first|omega|(simp;done)|(simp;omega)) [yAu,mL,z]<;>try rfl):G:=h
theorem fk(h:G:=by
 apply yCo
 intro i
 simp only[Array.toList_modify,yAo,List.getElem?_modify,yCT,yAe]
 by_cases hij:j=i
 .subst hij
  have hlt:j<ents.toList.length:=(yA.1 g2).1
  simp only[g2,yAC,yAL,yAJ hlt];rfl
 .simp only[yAI hij,Option.map_map]
  cases ents.toList[i]?<;>simp):G:=h
theorem fo(h:G:=by
 simp only[hc]at h ⊢
 exfalso
 cases op with
 |box t x=>cases hop
 |call c=>
  obtain⟨callee,args,ts⟩:=c
  cases callee with
  |value f=>simp[pop,eK,dE]at h
  |invoke r m=>simp[eM]at hm
  |builtin b=>cases b<;>first|(simp[eM]at hm;done)|cases hop
 |_=>simp[eM]at hm):G:=h
theorem fu(h:G:=by
 have h:=yAK List.length e
 rw[yAD,yAQ]at h
 omega):G:=h
theorem fy(h:G:=by
 subst e
 rw[ho]at hoj;simp only[yAb]at hoj;subst hoj
 refine⟨?_,λhw=>?_,λhw=>?_⟩
 .simp[e1]
 .simp only[yAL]at hw ⊢
  simp only[yDL,yAN,e2]
  exact hrun hw
 .simp only[yAL]at hw ⊢
  simp only[yDL,yAN,e2]
  exact hskip hw):G:=h
theorem ga(h:G:=by
 obtain⟨r1,r3,d1,d3,c3,s3⟩:=HZ hcf
 unfold fE
 simp only[H3,H0]
 exact⟨r1,d1⟩):G:=h
theorem gh(h:G:=by
 rename_i hne
 refine qC.wpIn (ih hF h hs hX hf hm hr m _ λc1 a1 e1 hs1 kM iK oD=>?_)
 have:=hQ c1 a1 e1 hs1 kM iK oD
 obtain⟨x',aS,ms1,σ1⟩:=r
 cases x' with
 |normal=>exact absurd h (hne _ _ _)
 |ret=>exact this
 |exit k=>exact this):G:=h
theorem gi(h:G:=by
 cases rs with
 |nil=>exact absurd hne.1 (by decide)
 |cons a b=>exact⟨a,b,rfl⟩):G:=h
theorem gj(h:G:=by
 have h1:=(eY id (yA.1 hy).1).trans hy
 rw[g6 id (λe=>by rw[e]at h1;rw[ucD]at h1;exact(hR _ ht).1 (aB.row.inj (yAU h1)).1.symm)]
 exact dO id _ h1 (λhp e=>by
  have h2:=hrow hp
  rw[<-e,hy]at h2
  exact(hR _ ht).2 (aB.row.inj (yAU h2)).1)):G:=h
theorem gl(h:G:=by
 split at h
 rotate_left
 .cases h
 split at h
 rotate_left
 .cases h
 rename_i hq
 split at h
 rotate_left
 .cases h
 simp only[yAb,yAc]at h
 rw[<-h.2]
 intro e
 have h1:=yAK List.length e
 rw[yAD,yAQ]at h1
 rw[yAf h1]at hq
 cases hq):G:=h
theorem gm(h:G:=by
 exact⟨h,by simp,λa ha b hb e=>hs (by simp at hb;rw[<-hb,<-e];exact ha)⟩):G:=h
theorem gp(h:G:=by
 rw[hadd]
 refine JU (hs.fresh _ (yAk _)) (λid o hd ho hb=>?_)
 have:=hs.lt id _ hd hb
 simp at this):G:=h
theorem gq(h:G:=by
 have hkm:k'%n<n:=yBs _ hn0
 have kP:k'%n<zv.cells.size:=by omega
 have hlt2:k'%n<z.cells.length:=by omega
 simp[hk,hzs,hlt2]at hv hd
 subst hv;subst hd
 exact hzc.2 (k'%n) _ _ (by simp[kP]) (by simp[hlt2])):G:=h
theorem gr(h:G:=by
 rw[yAo]at hd
 cases h0:ds[i]? with
 |none=>rw[h0]at hd;cases hd
 |some d0=>
  rw[h0]at hd
  simp only[yAC,yAb]at hd
  subst hd
  exact ih k (by omega) u d0 (h2 i u d0 hu h0) (EE hf (yAw.2 ⟨d0,yAE h0,rfl⟩))):G:=h
theorem gu(h:G:=by
 exact⟨_,_,hv,e1,λ_ _ h=>h.resize⟩):G:=h
theorem gv(h:G:=by
 exact hE hF hg hgo hs hX hv):G:=h
theorem gw(h:G:=by
 have:(⟨b,off,none⟩:Addr).add (z.toNat*n)=⟨b,off+z.toNat*n,none⟩:=by unfold Addr.add;split<;>simp_all
 have hz:z<(len:Int):=by omega
 simp[Instr.indexAt,asIntOf,yAM hu,Instr.sureAddr,h0,hz,nG hn,this]):G:=h
theorem gy(h:G:=by
 exact absurd h (by decide)):G:=h
theorem gz(h:G:=by
 split at hst
 .split at hst
  .split at hst
   .simp only[yAb]at hst;subst hst;simp
   .cases hst
  .cases hst
 .cases hst):G:=h
theorem ia(h:G:=by
 exact⟨v,by simp[execOp,r],q⟩):G:=h
theorem ic(h:G:=by
 rw[yAa]at e3
 exact⟨hL,by omega,e5⟩):G:=h
theorem ij(h:G:=by
 unfold wU
 generalize k%5=j at hlt
 match j,hlt with
 |0,_=>exact hx.2.2.2.2.1
 |1,_=>exact hx.2.2.2.2.2.1
 |2,_=>exact hx.2.2.2.2.2.2.1
 |3,_=>exact hx.2.2.2.2.2.2.2.1
 |4,_=>exact hx.2.2.2.2.2.2.2.2):G:=h
theorem iq(h:G:=by
 simp only[yAb,yAc]at hp ⊢
 obtain⟨rfl,rfl⟩:=hp
 exact⟨⟨rfl,rfl⟩,rfl⟩):G:=h
theorem ir(h:G:=by
 refine bV.normal (m-1) (by omega) (by refine⟨k+1,?_⟩;exact cF (⟨by omega,by omega,hkB⟩))):G:=h
theorem iu(h:G:=by
 have:(⟨b,off,none⟩:Addr).add (z.toNat*n)=⟨b,off+z.toNat*n,none⟩:=by unfold Addr.add;split<;>simp_all
 have hz:z<(m':Int):=by omega
 simp[Instr.indexAt,asIntOf,yAM hu,h0,hz,nG hn,this]):G:=h
theorem iw(h:G:=by
 split at h
 .rename_i hrec
  simp only[yAb,yAc]at h
  obtain⟨_,rfl,_⟩:=h
  rw[X4 l ms _ _ _ _ _ _ _ t x hrec (λo' ho'=>hn o' (by simp[ho'])),X3 (hn o (by simp))]
 .cases h):G:=h
theorem iy(h:G:=by
 rename_i pK aS σ2 hrec
 simp only[yAb,yAc]at h
 obtain⟨rfl,rfl,rfl⟩:=h
 exact lift p σ1 _ pK hrec rfl (λ_=>⟨by rw[<-hk];exact hp,rfl⟩) (λhf=>by rw[hw]at hf;cases hf)):G:=h
theorem iz(h:G:=by
 intro i b hi hb hlt
 by_cases e':i=id
 .subst e'
  rw[mQ]at hb
  rcases h3 with h3|h3
  .exact⟨hi,by rw[<-h3];exact hb⟩
  .have:=h3 b hb;omega
 .rw[gA e']at hb;exact⟨hi,hb⟩):G:=h
theorem ja(h:G:=by
 split at hs
 .split at hs
  .split at hs
   .simp only[yAb]at hs
    exact⟨id,_,by simp[lK,h1,fU],hs.symm⟩
   .simp at hs
  .simp at hs
 .simp at hs):G:=h
theorem jb(h:G:=by
 obtain⟨q1,q2⟩:=aBU hb
 cases hx<;>cases hy<;>first|(exact absurd rfl (q1 _))|(exact absurd rfl (q2 _))|rfl|(exact(n1 _ _ _ _ rfl rfl).elim)|(exact(n2 _ _ rfl rfl).elim)):G:=h
theorem jc(h:G:=by
 obtain⟨j,hj,rfl⟩:=yAw.1 h
 have hj':=yAX.1 hj
 exact⟨_,P0 (by omega) _,j,hj',rfl⟩):G:=h
theorem jd(h:G:=by
 refine⟨.int .i64 n,?_,.int _ _⟩
 simp[builtin,Builtin.len_,ht,hv,yAM hu,goInt]):G:=h
theorem je(h:G:=by
 refine cE ?_
 rw[yAd (yAW (h (by omega)))]
 exact hz):G:=h
theorem jf(h:G:=by
 rw[fC (hs.bG id hp.1)]at hq1
 simp only[yAb,aB.row.injEq]at hq1
 obtain⟨rfl,rfl,rfl,rfl⟩:=hq1
 exact⟨yAk _,λ_=>⟨rfl,cap,by rw[mQ];exact hr,by simp⟩⟩):G:=h
theorem jg(h:G:=by
 exact⟨v,c.w,.inl (by simp[execOp,r]),c,rfl,rfl,hs,.refl _ _,hv,λ_ h=>.inl h⟩):G:=h
theorem jh(h:G:=by
 intro j hj hlt
 by_cases e:j=i
 .subst e
  simp[htr]
 .simp only[yAI e]
  rw[h6 j (by omega) (by simp at hlt;omega),htr,show j-i=(j-(i+1))+1 by omega,yBL]):G:=h
theorem ji(h:G:=by
 rename_i pK aS σ2 hrec
 simp only[yAb,yAc]at h
 obtain⟨rfl,rfl,rfl⟩:=h
 exact lift (.aI []) σ none pK hrec rfl (λht=>absurd ht hw) (λ_=>⟨rfl,rfl⟩)):G:=h
theorem jj(h:G:=by
 exact L6 (λk=>⟨yAF _,yX,AX,yY,yAF _⟩) _ x hx):G:=h
theorem jk(h:G:=by
 refine aJ.aN 31 h0 func124 (h:=?_)
 refine aC (A13 h1 h2 @a @a2 @b b2 @c @e hM hG @w q1 @q) ?_
 simp(disch:=first|omega|(simp;done)|(simp;omega)) [yAu,q]<;>try rfl):G:=h
theorem jl(h:G:=by
 simp(disch:=first|omega|(simp;done)|(simp;omega)) [yAu,aP.mk.injEq,hne]<;>try rfl):G:=h
theorem jm(h:G:=by
 intro i hi
 simp only[Cx.put,yAD]
 exact hs.bG i hi):G:=h
theorem jn(h:G:=by
 unfold tN
 simp only
 rw[hn,yCC,yAA,yAh hnd]
 rfl):G:=h
theorem jo(h:G:=by
 by_cases e:i=id
 .subst e;exact mQ
 .exact gA e):G:=h
theorem jq(h:G:=by
 rw[fC (hs.bG id hp.1)]at hq1
 simp only[yAb,aB.row.injEq]at hq1
 obtain⟨rfl,rfl,rfl,rfl⟩:=hq1
 exact⟨yAk _,λ_=>⟨rfl,C2,mQ,by simp⟩⟩):G:=h
theorem jr(h:G:=by
 exact absurd (aB.row.inj (yAU h1)).1 (by decide)):G:=h
theorem js(h:G:=by
 rw[yAo]at hd
 cases hx:ds[i]? with
 |none=>rw[hx]at hd;simp at hd
 |some x=>
  rw[hx]at hd;simp only[yAC,yAb]at hd;subst hd
  exact ih i v x hv hx):G:=h
theorem jt(h:G:=by
 split at h
 .rename_i hrec
  simp only[yAb,yAc]at h
  obtain⟨rfl,rfl,rfl⟩:=h
  rw[Y3 l ms _ _ _ _ _ _ _ hrec hc.2,aFo hd]
 .cases h):G:=h
theorem ju(h:G:=by
 rw[yBn]at hj
 simpa using hj):G:=h
theorem jw(h:G:=by
 rw[yAg (yA.1 h).1]
 exact h):G:=h
theorem jx(h:G:=by
 simp only[yAb]at e hp'
 subst hp'
 rw[e];exact hp):G:=h
theorem jy(h:G:=by
 have h1:=yAK (λl=>l[0]?) AH
 simp only[yAv,yBn,yBo,yBv]at h1
 rw[yAJ (by decide),yAh (show d*5+4<KJ.length by omega)]at h1
 exact yAU h1):G:=h
theorem jz(h:G:=by
 rw[<-n8]at h
 rcases yCN h with h|h
 .exact jC g h
 .rw[h];rfl):G:=h
theorem kg(h:G:=by
 simp only[e1]
 rw[eV h]
 rfl):G:=h
theorem ki(h:G:=by
 obtain⟨N,h⟩:=h
 exact .step (N:=N) λn hn=>by
  simp only[iO,h n hn]
  obtain⟨x,a,b,c⟩:=r
  cases x<;>first|exact absurd rfl hr|rfl):G:=h
theorem kj(h:G:=by
 cases e';exact h9):G:=h
theorem ko(h:G:=by
 have:=Leaves.of (p:=.bool false) (v:=.bool false) BO (SF.trans JF) (.bool false)
 rw[w4,e4,e3]at this
 exact this):G:=h
theorem kr(h:G:=by
 unfold qQ at h4
 rcases h4 with⟨rfl,rfl,rfl,rfl⟩ | ⟨rfl,rfl,rfl,rfl⟩ | ⟨rfl,rfl,rfl,rfl⟩ | ⟨rfl,rfl,rfl,rfl⟩<;>kernel_rfl):G:=h
theorem ku(h:G:=by
 have hp:0<l.length:=by omega
 exact PB (hr hp) h1 (hg hp) (by rw[hl hp];exact yAk _) l rfl (λi hi=>h i hi (by rw[hl hp];exact hi)) K):G:=h
theorem ld(h:G:=by
 cases i with
 |zero=>simp at hv hd;subst hv;subst hd;exact a1
 |succ i=>exact b2 i v' d (by simpa using hv) (by simpa using hd)):G:=h
theorem lf(h:G:=by
 rcases h3 with h3|h3
 .exact hs.inj i id b hi hd hne hb (by rw[<-h3];exact hb')
 .have:=h3 b hb'
  have:=hs.lt i b hi hb
  omega):G:=h
theorem lp(h:G:=by
 have hne:i+(o::rest).length≠i:=by simp
 simp only[yAI hne]
 rw[show i+(o::rest).length=i+1+rest.length by simp;omega];exact e3):G:=h
theorem lq(h:G:=by
 have hne:i+(o::rest).length≠i:=by simp
 simp only[yAI hne]
 rw[show i+(o::rest).length=i+1+rest.length by simp;omega];exact e4):G:=h
theorem lu(h:G:=by
 obtain⟨ad,q1,q2,_⟩:=a6 j v hj
 exact⟨ad,q1,q2⟩):G:=h
theorem lz(h:G:=by
 have hm':=hm
 rw[F2,rY]at hm'
 simp only[yAn,yAX,yBR,yBI]at hm'
 have:=hm' i hi
 rw[fA,ho]at this
 simpa [xG]using this):G:=h
theorem mb(h:G:=by
 simp only[yAR,yAO]at hdm
 refine aC (A2 q4 hdm) ?_
 simp(disch:=first|omega|(simp;done)|(simp;omega)) [yAu,hdm]<;>try rfl):G:=h
theorem me(h:G:=by
 intro i b hi hb
 by_cases e':i=id
 .subst e';rw[mQ]at hb;exact h5 b hb
 .rw[gA e']at hb;exact yBT (hs.lt i b hi hb) h0.2.2.2):G:=h
theorem mg(h:G:=by
 obtain⟨N,h⟩:=h
 obtain⟨M,k⟩:=k
 exact .step (N:=max N M) λn hn=>by simp only[iO,h n (by omega)];exact k n (by omega)):G:=h
theorem mh(h:G:=by
 obtain⟨d1,d2⟩:=hdone s h (by omega)
 exact⟨d1,d2.aQ (by omega) λid o h1 h2=>by rw[jI id (by omega)];exact h2⟩):G:=h
theorem mj(h:G:=by
 refine yDd.2 ⟨k,yAX.2 hk,?_⟩
 rw[yAJ hs]
 refine yDK.2 ⟨i,yAX.2 hi,?_⟩
 rw[hli,hlo]
 rfl):G:=h
theorem mm(h:G:=by
 obtain⟨a,ha,rfl⟩:=yCA h
 have h1:=(hO.at_ a (by rw[<-hO.len];exact ha)).1
 rw[yAh ha]at h1
 rw[yAU h1];rfl):G:=h
theorem mo(h:G:=by
 obtain⟨k,_,rfl⟩:=hv
 have kP:k%zv.cells.size<zv.cells.size:=yBs _ (by omega)
 apply hz1
 simp[kP]):G:=h
theorem mq(h:G:=by
 obtain⟨b1,b2,e1,e2,e3,e4,e5⟩:=key _ xs ys h
 exact⟨b1,b2,e1,e2,e3,by simpa using e4,by simpa using e5⟩):G:=h
theorem mu(h:G:=by
 refine⟨v,w',.inl ?_,hl⟩
 simp only[execOp,resolve,invoke,builtin,yAZ,yBm,yBk]
 simp[hx2,r]):G:=h
theorem mw(h:G:=by
 simp only[yAb]at ha
 subst ha
 simpa only[lK,aZ]using h):G:=h
theorem mz(h:G:=by
 simp only[yBf]at hv
 rcases hv with(hv|hv)|hv
 .exact h1c v (yAy hv)
 .exact w6 v hv
 .exact h1c v (yBi hv)):G:=h
theorem ng(h:G:=by
 simp only[yAb,yAc]at h;exact h.2.symm):G:=h
theorem nh(h:G:=by
 have:oV P call fl ops fr σ=some (fr',σ'):=by
  unfold oV
  simp only[hr,yAL,hh,hd,hf]
 unfold nS
 rw[this]):G:=h
theorem ni(h:G:=by
 rw[yDf,yAH]
 congr 1
 simp[yAA,hi,ha]):G:=h
theorem nj(h:G:=by
 intro i p hi hp
 have e':i≠id:=by rintro rfl;rw[hq]at hp;cases hp
 exact⟨gA e',p,by rw[dU e'];exact hp⟩):G:=h
theorem nk(h:G:=by
 exact⟨v,by simp[Instr.loadAt,Instr.sureAddr,r],q⟩):G:=h
theorem nq(h:G:=by
 cases e with
 |returned v=>exact hK v w'' he
 |panicked chain=>exact he.elim
 |outgrown=>exact he.elim):G:=h
theorem nt(h:G:=by
 exact I8 hU l (i+1) _ _ _ ho.2 h):G:=h
theorem nu(h:G:=by
 refine aC (A6 h1 hF @b @w @c @e) ?_
 simp(disch:=first|omega|(simp;done)|(simp;omega)) [yAu,b,c,e]<;>try rfl):G:=h
theorem nw(h:G:=by
 rw[List.getElem_append_right (by rw[yAe,yAt];omega)]
 simp only[yAe,yAt,yBK (yCx h),yCt,List.getElem_drop,yBo]):G:=h
theorem ny(h:G:=by
 simp only[yBL]at h1 hf
 exact PW l ms _ _ _ _ _ _ _ j t id o' hrec h1 ha (by simpa [HY]using hu) hf):G:=h
theorem oa(h:G:=by
 refine bV.normal (m-1) (by omega) (by refine⟨i+1,kB,?_⟩;exact cF (⟨by omega,by rw[hst];exact hs⟩))):G:=h
theorem ob(h:G:=by
 simp only[execOp,resolve,e,Deferred.ofValue,yAZ,yBm,yBk,invoke,callFunc,run_program,hfn,hn,hb',yAx,yAN,e2]):G:=h
theorem oe(h:G:=by
 intro i hi hn
 have e':i≠id:=by rintro rfl;rw[hq]at hn;exact hn
 exact⟨gA e',by rw[dU e'];exact hn⟩):G:=h
theorem og(h:G:=by
 simp only[Instr.storeAt,Instr.sureAddr,yAZ,yBm,yBk,storeVar,nG hn,hsz,ne_eq,yBM,yAN]
 exact hst):G:=h
theorem oh(h:G:=by
 obtain⟨r,_,rfl⟩:=yAw.1 h
 rfl):G:=h
theorem om(h:G:=by
 exact absurd e (by decide)):G:=h
theorem oq(h:G:=by
 simp only at h ⊢
 split at h
 .rename_i p σ1 hp
  rw[ND hp]
  exact NF h
 .cases h):G:=h
theorem ot(h:G:=by
 have:=MV 12 t ks _ _ _ _ b h (.inl ⟨ha,rfl⟩) (.inl ⟨ha,rfl⟩) hc
 simp only[dW,pB,hg,yAx,yAN,this]):G:=h
theorem ou(h:G:=by
 refine aC (A3 @a @b @c) ?_
 simp(disch:=first|omega|(simp;done)|(simp;omega)) [yAu,uD,a,b,c]<;>try rfl):G:=h
theorem oz(h:G:=by
 rw[PI]at hL
 exact⟨hL,by rw[yAa,yAD];omega,e5⟩):G:=h
theorem pg(h:G:=by
 refine aC (A3 h1 k1 @hz) ?_
 simp(disch:=first|omega|(simp;done)|(simp;omega)) [yAu,hz,pM,sz]<;>try rfl):G:=h
theorem pq(h:G:=by
 intro i hi _
 exact dU (by omega)):G:=h
theorem qe(h:G:=by
 obtain⟨e,he,hb⟩:=Array.any_eq_true'.1 this
 simp only[yAr,yCg]at hb
 exact⟨e,he,hb.1,hb.2⟩):G:=h
theorem qf(h:G:=by
 rename_i e
 simp only[yAb]at h2
 subst h2
 rw[e]at h1
 simpa only[lK,aZ]using h1):G:=h
theorem qg(h:G:=by
 have:id≠i:=λe=>by
  subst e
  rw[h]at h2
  exact ho _ _ _ (yAU h2)
 rw[yAd this]
 exact h):G:=h
theorem qh(h:G:=by
 refine aC (A3 @a @b @c) ?_
 simp(disch:=first|omega|(simp;done)|(simp;omega)) [yAu,mE,a,b,c]<;>try rfl):G:=h
theorem qi(h:G:=by
 rw[dL]
 exact(aY.set b0 _).trans (aY.app R _ _)):G:=h
theorem qj(h:G:=by
 have h1:=h d (yBc ..)
 have h2:=ih λx hx=>h x (yBH _ hx)
 simp only[yAS,yDW,yAT]
 omega):G:=h
theorem qk(h:G:=by
 simp only[yBL]at h1 h2
 rw[yEh]at hc
 exact Y4 l ms _ _ _ _ _ _ _ hrec j a t h1 h2 hc):G:=h
theorem ql(h:G:=by
 refine aC (A2 @a @c) ?_
 simp(disch:=first|omega|(simp;done)|(simp;omega)) [yAu,uD,a,c]<;>try rfl):G:=h
theorem qm(h:G:=by
 refine aC (A2 @a @b) ?_
 simp(disch:=first|omega|(simp;done)|(simp;omega)) [yAu,lV,a,b]<;>try rfl):G:=h
theorem qo(h:G:=by
 obtain⟨q,σ1,h1,rfl⟩:=key.ex
 exact⟨q,h1⟩):G:=h
theorem qp(h:G:=by
 obtain⟨q,σ1,h1,rfl,rfl⟩:=key.ex
 exact h1):G:=h
theorem qq(h:G:=by
 refine aC (A2 @a @b) ?_
 simp(disch:=first|omega|(simp;done)|(simp;omega)) [yAu,a,b]<;>try rfl):G:=h
theorem qt(h:G:=by
 have e:jK.dec (.int .u8 f)=some f:=Em.cM rfl
 unfold entry bZ
 simp only[e]
 rw[eV hf]
 rfl):G:=h
theorem qu(h:G:=by
 simp[Instr.sliceAt,Instr.slice,yAM hu,b3,nG hn]):G:=h
theorem qv(h:G:=by
 simp only[yBj,yAa]at this ⊢
 omega):G:=h
theorem qw(h:G:=by
 simp only[Lit.wf,IntKind.min,IntKind.max,IntKind.signed,IntKind.bits]at hz
 simp at hz
 omega):G:=h
theorem qx(h:G:=by
 exact⟨v,by simp[hg,r],q⟩):G:=h
theorem qy(h:G:=by
 have:=pI ho
 have h2:ops.toList.length<=i:=List.drop_eq_nil_iff.1 hdrop
 simp at h2;omega):G:=h
theorem qz(h:G:=by
 exact⟨.aI [bK,.int .i64 10],σ2.set 2 (.box bK),by simp[cI,v2,bK],.inl ⟨hneg,rfl⟩⟩):G:=h
theorem ri(h:G:=by
 cases A<;>simp[Builtin.append_,yAM hu,sizeOf,typeInfo,hi,Builtin.lenOf,hfy,hn,storeCells]):G:=h
theorem rj(h:G:=by
 split at h
 .simp only[yAb,yAc]at h
  obtain⟨rfl,_,_⟩:=h
  rfl
 .cases h):G:=h
theorem rm(h:G:=by
 subst this
 simp[Builtin.firstCells]):G:=h
theorem rq(h:G:=by
 cases dE P fl fr σ op with
 |none=>rfl
 |some x=>obtain⟨p,σ'⟩:=x;simp[OD,aCg]):G:=h
theorem ru(h:G:=by
 unfold kW
 rw[yAt,yBg,yBj,hcur]
 exact kk):G:=h
theorem rz(h:G:=by
 simp only[PD.cells]at hdm
 simp only[PD.bQ,PD.r9]at hxf
 exact yAn.1 hxf d hdm):G:=h
theorem si(h:G:=by
 rw[yAI e1,yAI e2]at e
 exact hinj s s' g g' h h' k k' (by omega) (by omega) p1 p2 e):G:=h
theorem sj(h:G:=by
 rw[yDx _ _ (by rw[yAe,yAt];omega),yAe,yAt,yBK (yCx h),yCt,yAq h,yBu,yBC h,yAH,yAi]
 rfl):G:=h
theorem so(h:G:=by
 show(Instr.checkKey e (9999+1) kt _).run P w=_
 unfold Instr.checkKey
 simp[yAM hu]):G:=h
theorem su(h:G:=by
 simp only[yAb,yAc]at hp ⊢
 exact⟨⟨hp.1,by rw[hp.2]⟩,by rw[hp.2]⟩):G:=h
theorem sw(h:G:=by
 rename_i hx
 have e:=(eC hf hx).zM
 exact⟨_,by simp[execOp,e,asBool],eC hf h⟩):G:=h
theorem sy(h:G:=by
 rintro rfl
 rw[fC (hs.bG i hd)]at hi'
 simp only[yAb]at hi';subst hi';exact hn'):G:=h
theorem tc(h:G:=by
 cases b1 with
 |true=>simpa [e3]using q2
 |false=>simp[e3]):G:=h
theorem td(h:G:=by
 intro i j b' hi hj hne h5 h6
 rw[hρ]at h5 h6
 exact hs.inj i j b' hi hj hne h5 h6):G:=h
theorem tf(h:G:=by
 rcases hh with rfl | ⟨AJ,m1,rfl⟩
 .exact λσ' k K=>qH σ' k K
 .exact qH):G:=h
theorem tj(h:G:=by
 simp only[yBN]at e
 rw[e.1]
 rfl):G:=h
theorem tq(h:G:=by
 exact⟨.pointer (some ⟨b,off,none⟩),by simp[execOp,e],by rw[<-e];exact hv⟩):G:=h
theorem tw(h:G:=by
 rw[hu]at hv
 obtain⟨cs,e,_⟩:=hv
 exact row (by simp only[fQ,hu]) ⟨cs,e⟩):G:=h
theorem ua(h:G:=by
 rw[yAd (yAW (hz (by omega)))]
 exact h):G:=h
theorem uc(h:G:=by
 simp only[yBg]at hz
 exact aAJ h1 (by rw[h2,hlen]) (by omega)):G:=h
theorem ud(h:G:=by
 simp(disch:=first|omega|(simp;done)|(simp;omega)) [yAu,bB.mk.injEq,e0]<;>try rfl):G:=h
theorem ue(h:G:=by
 simp(disch:=first|omega|(simp;done)|(simp;omega)) [yAu,bB.mk.injEq,e1]<;>try rfl):G:=h
theorem uf(h:G:=by
 simp(disch:=first|omega|(simp;done)|(simp;omega)) [yAu,bB.mk.injEq,e2]<;>try rfl):G:=h
theorem ug(h:G:=by
 simp(disch:=first|omega|(simp;done)|(simp;omega)) [yAu,bB.mk.injEq,e3]<;>try rfl):G:=h
theorem uh(h:G:=by
 simp(disch:=first|omega|(simp;done)|(simp;omega)) [yAu,bB.mk.injEq,e4]<;>try rfl):G:=h
theorem uj(h:G:=by
 simp(disch:=first|omega|(simp;done)|(simp;omega)) [yAu,bW.mk.injEq,e0]<;>try rfl):G:=h
theorem uk(h:G:=by
 simp(disch:=first|omega|(simp;done)|(simp;omega)) [yAu,bW.mk.injEq,e1]<;>try rfl):G:=h
theorem um(h:G:=by
 simp(disch:=first|omega|(simp;done)|(simp;omega)) [yAu,bW.mk.injEq,e2]<;>try rfl):G:=h
theorem uo(h:G:=by
 simp(disch:=first|omega|(simp;done)|(simp;omega)) [yAu,bD.mk.injEq,e0]<;>try rfl):G:=h
theorem uq(h:G:=by
 simp(disch:=first|omega|(simp;done)|(simp;omega)) [yAu,bD.mk.injEq,e1]<;>try rfl):G:=h
theorem ur(h:G:=by
 simp(disch:=first|omega|(simp;done)|(simp;omega)) [yAu,bD.mk.injEq,e2]<;>try rfl):G:=h
theorem uu(h:G:=by
 simp(disch:=first|omega|(simp;done)|(simp;omega)) [yAu,bD.mk.injEq,e3]<;>try rfl):G:=h
theorem uv(h:G:=by
 simp(disch:=first|omega|(simp;done)|(simp;omega)) [yAu,aP.mk.injEq,e0]<;>try rfl):G:=h
theorem uw(h:G:=by
 have:s=⟨s.data.toList.toArray⟩:=by simp
 conv=>lhs;rw[this]
 exact .str _):G:=h
theorem ux(h:G:=by
 have:(j+1)*n<=(j+1+qs.length)*n:=yBO _ (by omega)
 rw[yBw]at this;omega):G:=h
theorem uy(h:G:=by
 obtain⟨r,h1,p1,σ1,h2,h3⟩:=h.ex
 exact⟨p1,σ1,.body hE hf hb h1 h2,h3⟩):G:=h
theorem uz(h:G:=by
 rw[yAJ h1]
 exact⟨λe=>absurd e h1,λe=>absurd (e.1 r (yBc ..)) h1⟩):G:=h
theorem ve(h:G:=by
 obtain⟨ad,e',_⟩:=a6 0 flx[0] (by simp[this])
 cases e'):G:=h
theorem vf(h:G:=by
 rcases hsz with h0|h0
 .rw[a4,h0];simp
 .rw[a4,h0]):G:=h
theorem vh(h:G:=by
 exact⟨xs,BS hx (λg hg=>h.block g (hs.lt id g hd hg) (by simp))⟩):G:=h
theorem vj(h:G:=by
 rcases yBf.1 h with h|h
 .exact .inl (yAy h)
 .exact .inl (yBi h)):G:=h
theorem vl(h:G:=by
 rw[dif_pos hx]
 exact yAK some ((Classical.choose_spec hx).2.unique h)):G:=h
theorem vm(h:G:=by
 exact .agg cs ds hl h1 (λi v d hv hd=>ih i v d hv hd (at_ hp hd))):G:=h
theorem vn(h:G:=by
 simp only[yAb]at h ⊢
 subst h
 rw[yDZ _ _ hlt]):G:=h
theorem vo(h:G:=by
 simp only[yAb]at ho
 exact⟨_,_,_,ho.symm,hj⟩):G:=h
theorem vp(h:G:=by
 simp only[yAb,yAc]at hrun ⊢
 exact⟨hrun.1,trivial⟩):G:=h
theorem vr(h:G:=by
 exact .aI cs ds hl (λi v d hv hd=>ih i v d hv hd (at_ hp hd))):G:=h
theorem vu(h:G:=by
 simp only[yAb]at h;subst h
 exact⟨by simpa [PD.cells],rfl⟩):G:=h
theorem vw(h:G:=by
 rw[yAJ h1]
 exact⟨λe=>absurd e h1,λe=>absurd e.1 h1⟩):G:=h
theorem vz(h:G:=by
 rw[hB]at k2 ⊢
 clear hB hK
 simp only[cU,aW]at k1 k2 ⊢
 have hz:=h0
 refine aJ.aN 61 h0 func43 (h:=?_)
 refine aC (A4 h1 k1 h2 k2) ?_
 exact ag):G:=h
theorem wg(h:G:=by
 rintro m fr σ ⟨i,gg,hI,rfl,rfl⟩
 obtain⟨hm,hs⟩:=hI
 by_cases hi:i<l.length
 .have q1:(i:Int)<(l.length:Int):=by omega
  have hir:i<r.length:=by omega
  have q2:(i:Int)<(r.length:Int):=by omega
  obtain⟨a,ha⟩:=gn (l[i])
  obtain⟨b,hb⟩:=gn (r[i])
  have dY:l.drop i=a::l.drop (i+1):=by rw[yAq hi,ha]
  have hc2:r.drop i=b::r.drop (i+1):=by rw[yAq hir,hb]
  rw[dY,hc2,rW]at hs
  obtain⟨a0,a1⟩:=a
  obtain⟨b0,b1⟩:=b
  by_cases e0:a0=b0
  rotate_left
  .rw[show decide ((⟨a0,a1⟩:dT)=⟨b0,b1⟩)=false by simp[e0],yBa]at hs
   refine aC (A7 q1 q2 hi hir ha @hb @e0) ?_
   exact cg
  by_cases e1:a1=b1
  rotate_left
  .rw[show decide ((⟨a0,a1⟩:dT)=⟨b0,b1⟩)=false by simp[e1],yBa]at hs
   refine aC (A8 q1 q2 hi hir ha @hb @e0 e1) ?_
   exact cg
  rw[show decide ((⟨a0,a1⟩:dT)=⟨b0,b1⟩)=true by simp[e0,e1],yBt]at hs
  refine aC (A8 q1 q2 hi hir ha @hb @e0 e1) ?_
  exact bl
 .have q1:¬(i:Int)<(l.length:Int):=by omega
  rw[yAs (by omega),yAs (by omega)]at hs
  have bY:B=true:=hs.symm
  refine aC q1 ?_
  exact aq):G:=h
theorem wj(h:G:=by
 have bY:B=false:=hs.symm
 refine aC (A8 q1 q2 hi hir ha @hb j0 j1) ?_
 first|refine Wp.seq ?_|skip
 apply Wp.mZ
 refine kH (A4 h1 hE j0 j1) ?_
 apply SQ.nil
 refine aC q1 ?_
 exact aq):G:=h
theorem wm(h:G:=by
 rw[yAs (by omega),yAs (by omega)]at hs
 have bY:B=true:=hs.symm
 refine aC q1 ?_
 exact aq):G:=h
theorem wo(h:G:=by
 have q1:¬(i:Int)<(l.length:Int):=by omega
 rw[yAs (by omega),yAs (by omega)]at hs
 have bY:B=true:=hs.symm
 have q2:¬(i:Int)<(r.length:Int):=by omega
 refine aC (A2 q1 q2) ?_
 exact aq):G:=h
theorem wq(h:G:=by
 have bY:B=(i:Int):=hs.symm
 have wX:V=i+1:=by omega
 rw[yAY hb]at hE
 rw[bY,wX,CU]
 clear hs bY
 refine aC (A3 q1 hi ha) ?_
 first|refine Wp.seq ?_|skip
 apply Wp.mZ
 refine kH (A4 h1 hE hi ha) ?_
 apply SQ.nil
 refine aC q1 ?_
 exact ay):G:=h
theorem wu(h:G:=by
 refine aC q1 ?_
 exact aq):G:=h
theorem xb(h:G:=by
 rcases hr.inv with⟨σ1,he,jE⟩ | he
 .exact cw
 .refine aL.of he ⟨_,by simp only[bE,yBu,yBx];rfl,?_⟩
  refine F1 trivial ?_
  apply SQ.nil
  refine kG.normal ?_
  refine aC trivial ?_
  exact ag):G:=h
theorem xd(h:G:=by
 have q1:¬(i:Int)<(l.length:Int):=by omega
 obtain rfl:i=l.length:=by omega
 rw[yCl]at hs hv
 have bY:B=-1:=hs.symm
 have wX:V=l.length:=by simpa [jV]using hv.symm
 rw[bY,wX]
 refine aC q1 ?_
 exact ay):G:=h
theorem xe(h:G:=by
 refine aC trivial ?_
 exact ag):G:=h
theorem xg(h:G:=by
 intro i st fr ps asg bd hi hm
 have e':i≠id:=by rintro rfl;rw[fC (hs.bG i hd)]at hm;cases hm
 rw[dU e']at hm
 obtain⟨b',r,e1,e2,e3,e4,e5,e6,e7⟩:=hs.loop i st fr ps asg bd hi hm
 refine⟨b',r,(gA e').trans e1,?_,e3,e4,e5,e6.mono nx,e7⟩
 exact bq):G:=h
theorem xh(h:G:=by
 have c0:¬kd<1:=by omega
 obtain⟨eA,eB⟩:=hAB (by omega)
 obtain rfl:A=4:=by omega
 have b1:¬B=1:=by omega
 have g1:7<=kd:=by omega
 have g2:¬kd<=9:=by omega
 have wh:fV kd=4:=by unfold fV;rw[yAI c0];rw[yAI (by omega)];omega
 exact ax):G:=h
theorem xj(h:G:=by
 intro i es hi ho
 have e':i≠id:=by rintro rfl;rw[fC (hs.bG i hd)]at ho;cases ho
 rw[dU e']at ho
 obtain⟨b',ents,clock,e1,e2,e3,e4⟩:=hs.map i es hi ho
 refine⟨b',ents,clock,(gA e').trans e1,?_,e3.mono nx,e4.mono nx⟩
 exact bq):G:=h
theorem xm(h:G:=by
 intro i p hi hp
 have e':i≠id:=by rintro rfl;rw[fC (hs.bG i hd)]at hp;cases hp
 rw[dU e']at hp
 obtain⟨b',cs',T',e1,e2,e3,e4⟩:=hs.box i p hi hp
 refine⟨b',cs',T',(gA e').trans e1,?_,e3.mono nx,e4⟩
 exact bq):G:=h
theorem xo(h:G:=by
 rw[dY,hc2,rW]at hs
 by_cases e:a=b
 .rw[yAY e,yBt]at hs
  refine aC (A7 q1 q2 hi hir ha @hb @e) ?_
  exact bl
 .rw[yBd e,yBa]at hs
  refine aC (A7 q1 q2 hi hir ha @hb @e) ?_
  exact cg):G:=h
theorem xp(h:G:=by
 intro i hi hm
 have e':i≠id:=by rintro rfl;rw[fC (hs.bG i hd)]at hm;cases hm
 rw[dU e']at hm
 obtain⟨b',e1,e2⟩:=hs.mark i hi hm
 refine⟨b',(gA e').trans e1,?_⟩
 exact bq):G:=h
theorem xq(h:G:=by
 split at h
 .rename_i hw
  split at h
  .rename_i p σ1 hp
   split at h
   .exact iy
   .exact ak
  .exact ak
 .rename_i hw
  split at h
  .exact ji
  .exact ak):G:=h
theorem xu(h:G:=by
 refine aC (A2 @hb @hz) ?_
 exact ay):G:=h
theorem xw(h:G:=by
 refine aC (A2 @hb @f1) ?_
 exact ay):G:=h
theorem xx(h:G:=by
 have:=yAK List.head? hd
 rw[yCD]at this
 exact cr):G:=h
theorem xy(h:G:=by
 refine aC (A2 h2 hD) ?_
 exact ay):G:=h
theorem xz(h:G:=by
 have j0:∀x:aB,(τ++[x])[τ.length]?=some x:=λx=>by simp
 have q1:(i:Int)<(n:Int):=by omega
 refine aL.aN 29 h0 func85 (h:=?_)
 exact dw):G:=h
theorem ya(h:G:=by
 have j0:∀x:aB,(τ++[x])[τ.length]?=some x:=λx=>by simp
 have q1:(i:Int)<(n:Int):=by omega
 refine aL.aN 29 h0 func84 (h:=?_)
 exact dw):G:=h
theorem yb(h:G:=by
 refine aC (A2 h1 hI) ?_
 exact ay):G:=h
theorem yc(h:G:=by
 refine aC @hb ?_
 exact ay):G:=h
theorem ye(h:G:=by
 obtain rfl:B=1:=by omega
 have g1:¬7<=kd:=by omega
 have wh:fV kd=-1:=by unfold fV;rw[yAI c0];rw[yAJ (by omega)]
 exact bu):G:=h
theorem yf(h:G:=by
 split at h
 .rename_i q hq;exact(yA.1 hq).1
 .exact ak):G:=h
theorem yg(h:G:=by
 have:=yAK List.head? hdrop
 rw[yCD]at this
 exact cr):G:=h
theorem yh(h:G:=by
 split at h
 .exact ak
 .cases h):G:=h
theorem yj(h:G:=by
 have rN:A=[]:=yAf hlen
 subst rN
 have YL:T=0:=by rw[<-hs];rfl
 subst YL
 refine aC @hlen ?_
 exact ay):G:=h
theorem ym(h:G:=by
 refine aC (A6 j0 @hid hlt @he @c @f0) ?_
 exact ay):G:=h
theorem yo(h:G:=by
 apply SQ.nil
 refine aC trivial ?_
 exact aq):G:=h
theorem yp(h:G:=by
 refine aC (A2 h1 hE) ?_
 exact ag):G:=h
theorem yq(h:G:=by
 refine aC (A5 j0 @hid hlt @he @c) ?_
 exact ay):G:=h
theorem yu(h:G:=by
 rw[yAY e,yBt]at hs
 rw[yAY e]at hE
 refine aC (A8 q1 q2 hi hir ha @hb h1 hE) ?_
 exact bl):G:=h
theorem yw(h:G:=by
 simp only[dE]at h
 split at h
 .split at h
  .exact ng
  .exact ak
 .exact ak):G:=h
theorem yx(h:G:=by
 refine aJ.aN 38 h0 func61 (h:=?_)
 refine aC (A7 h1 h2 h3 e1 e2 e3 e4) ?_
 exact ag):G:=h
theorem yy(h:G:=by
 rw[e]
 refine aJ.aN 38 h0 func111 (h:=?_)
 refine aC (A2 @c @d) ?_
 exact bx):G:=h
theorem yz(h:G:=by
 refine⟨b',C,cur,(gA e').trans e1,?_,e3,e4,e5,e6,e7.mono nx,e8⟩
 exact bq):G:=h
theorem yO(h:G:=by
 rw[e]
 refine aJ.aN 38 h0 func111 (h:=?_)
 refine aC @c ?_
 exact bx):G:=h
theorem ze(h:G:=by
 refine aJ.aN 23 h0 func45 (h:=?_)
 refine aC (A3 c1 c2 c3) ?_
 exact ag):G:=h
theorem zf(h:G:=by
 refine aC (A13 b1 b2 b3 b4 c2 c3 @d9 @d11 hml hp h2 yF AQ) ?_
 exact cy):G:=h
theorem zg(h:G:=by
 refine hkeep _ _ (λe e2=>?_) h1
 rw[e2,sD e]at h1
 exact jr):G:=h
theorem zi(h:G:=by
 have:=VR.agg (c:=c) cells'.toList out h2.1 h3 h2.2
 exact cr):G:=h
theorem zj(h:G:=by
 have:=yAK (List.drop 4) hat
 rw[yDw,yBD]at this
 exact cr):G:=h
theorem zk(h:G:=by exact A2 @hq cX):G:=h
theorem zo(h:G:=by exact A20 @g0 @g1 @g2 @v0 y0 @v1 y1 @v2 y2 @i1 @i2 h7 k7 u0 u1 u2 r0 x0 r1 (A3 x1 r2 x2)):G:=h
theorem zq(h:G:=by exact A9 q1 hi xk @v2 r2 y2 gK hat j0):G:=h
theorem zu(h:G:=by exact A20 h1 k1 h2 k2 b0 w0 @z0 pR pD pC cR cD cC b1 w1 z1 b2 w2 @z2 (A13 sO h3 k3 h4 k4 @g0 @g1 @v0 y0 @v1 y1 @v2 y2)):G:=h
theorem zx(h:G:=by exact A20 u0 u1 u2 r0 x0 r1 x1 r2 x2 nY k8 s0 @f0 @d0 pQ cQ pR pD pC (A3 cR cD cC)):G:=h
theorem zy(h:G:=by exact A20 u0 u1 u2 r0 x0 r1 x1 r2 x2 nY sQ rJ oL s0 @f0 @d0 pQ cQ pR (A5 pD pC cR cD cC)):G:=h
theorem zz(h:G:=by exact A15 q1 hi ha j0 j1 hx1 gC hxe c2 c3 c4 c5 h1 hE @hle):G:=h
theorem Aa(h:G:=by exact A14 q1 hi ha j0 hx1 hy1 gC kP hxe hye h2 hE h3 hA):G:=h
theorem Ab(h:G:=by exact A16 u0 w0 @z0 r0 tT j0 hK xk hi p9 c9 u7 r7 y7 gK hfl):G:=h
theorem Ac(h:G:=by exact A15 q1 hi4 EY vt rT yT vg rG yG EX hat aEp h1 hMi hfl):G:=h
theorem Ad(h:G:=by exact A20 h1 k1 h2 k2 b0 w0 @z0 pR pD pC cR cD cC b1 w1 z1 b2 w2 @z2 (A12 c1 c2 c3 dL @a0 a1 @a2 h6 k6 @t2 @t3 @t4)):G:=h
theorem Ae(h:G:=by exact A20 h1 k1 h2 k2 b0 w0 @z0 pR pC cR cC b1 w1 z1 b2 w2 @z2 sO h3 (A14 k3 h4 k4 @g0 @g1 @v0 y0 @v1 y1 @v2 y2 xk @i1 @i2)):G:=h
theorem Af(h:G:=by exact A20 @g1 @v1 y1 hDrow vD yD nY sQ oL ucD s0 @f0 @d0 sD fD dD pQ cQ pR (A9 pC cR cC pS cS AH W9 gK ER)):G:=h
theorem Ag(h:G:=by exact A20 h1 k1 h2 k2 b0 w0 @z0 pR pC cR cC b1 w1 z1 b2 w2 @z2 sO h3 (A15 k3 h4 k4 @g0 @g1 @v0 y0 @v1 y1 @v2 y2 xk @i1 @i2 hw0)):G:=h
theorem Ah(h:G:=by omega):G:=h
theorem Ai(h:G:=by simp):G:=h
theorem Aj(h:G:=by kernel_rfl):G:=h
theorem Ak(h:G:=by (first|rfl|(simp[hq];repeat(first|rfl|(apply And.intro)))|(simp[hq];done))):G:=h
theorem Al(h:G:=by decide):G:=h
theorem Am(h:G:=by rw[yAP];omega):G:=h
theorem Ao(h:G:=by decide +kernel):G:=h
theorem Ap(h:G:=by cases h):G:=h
theorem Aq(h:G:=by cases x;cases y;simpa using h):G:=h
theorem Ar(h:G:=by simp only[IntKind.wrap,IntKind.bits,IntKind.signed];simp;omega):G:=h
theorem As(h:G:=by (first|rfl|(simp[];repeat(first|rfl|(apply And.intro)))|(simp[];done))):G:=h
theorem At(h:G:=by rw[yAq hi,ha]):G:=h
theorem Au(h:G:=by intro e k n h;cases h):G:=h
theorem Av(h:G:=by unfold Addr.add;split<;>simp_all):G:=h
theorem Aw(h:G:=by simp;omega):G:=h
theorem Ax(h:G:=by rw[e]at v0;exact absurd v0 (yBb _)):G:=h
theorem Ay(h:G:=by simp only[maxLen];omega):G:=h
theorem Az(h:G:=by rw[<-hhR];exact eQ _ _ _):G:=h
theorem Ba(h:G:=by rw[<-hhD];exact eQ _ _ _):G:=h
theorem Bb(h:G:=by rw[<-hhC];exact eQ _ _ _):G:=h
theorem Bc(h:G:=by rintro rfl;rw[fC (hs.bG i hd)]at ho;cases ho):G:=h
theorem Bd(h:G:=by (try simp only[yAa,yAT,yAQ,maxLen]);omega):G:=h
theorem Be(h:G:=by rw[h];decide):G:=h
theorem Bf(h:G:=by cases h;exact hR _ hr rfl):G:=h
theorem Bg(h:G:=by rw[yAe];omega):G:=h
theorem Bh(h:G:=by simpa using h):G:=h
theorem Bi(h:G:=by rcases h with h|h|h|h<;>rw[h]<;>decide):G:=h
theorem Bj(h:G:=by cases e):G:=h
theorem Bk(h:G:=by simp only;omega):G:=h
theorem Bl(h:G:=by assumption):G:=h
theorem Bm(h:G:=by rw[yAq hir,hb]):G:=h
theorem Bn(h:G:=by unfold IntKind.wrap;simp[IntKind.bits,IntKind.signed];omega):G:=h
theorem Bo(h:G:=by rw[e]at r0;exact absurd r0 (yBb _)):G:=h
theorem Bp(h:G:=by intro e k n h;rw[hL]at h;cases h):G:=h
theorem Bq(h:G:=by rw[dL,yAa,yAD];omega):G:=h
theorem Br(h:G:=by simp at h):G:=h
theorem Bs(h:G:=by intro fl σ n;kernel_rfl):G:=h
theorem Bt(h:G:=by rw[<-eI,yAd (yAW h)]):G:=h
theorem Bu(h:G:=by rw[h];rfl):G:=h
theorem Bv(h:G:=by rw[yAt];omega):G:=h
theorem Bw(h:G:=by rw[<-hhR];exact jU _ _ _):G:=h
theorem Bx(h:G:=by rw[<-hhD];exact jU _ _ _):G:=h
theorem Bz(h:G:=by rw[<-hhC];exact jU _ _ _):G:=h
theorem Ca(h:G:=by simpa using h1):G:=h
theorem Cb(h:G:=by rw[hr];rfl):G:=h
theorem Cc(h:G:=by rw[yAe];exact h):G:=h
theorem Cd(h:G:=by unfold aE.add;rw[yAJ rfl]):G:=h
theorem Ce(h:G:=by (first|rfl|(simp[oN,cU,aW,dK,bS,dN,eD,sz];repeat(first|rfl|(apply And.intro)))|(simp[oN,cU,aW,dK,bS,dN,eD,sz];done))):G:=h
theorem Cf(h:G:=by apply yCi;simp):G:=h
theorem Cg(h:G:=by simp[Call.operands];exact yCf.1 hx):G:=h
theorem Ch(h:G:=by simp[rK]):G:=h
theorem Ci(h:G:=by simp[<-hy]):G:=h
theorem Cj(h:G:=by intro t ht;rcases ht with h|h|h<;>rw[h]<;>decide):G:=h
theorem Ck(h:G:=by simp[hy]):G:=h
theorem Cl(h:G:=by simpa using g2):G:=h
theorem Cm(h:G:=by intro t ht;rcases ht with h|h<;>rw[h]<;>decide):G:=h
theorem Cn(h:G:=by rw[yAe];have:=L7 hzs hW;omega):G:=h
theorem Co(h:G:=by cases h;rfl):G:=h
theorem Cp(h:G:=by rw[<-hB];simp):G:=h
theorem Cq(h:G:=by simpa using hl):G:=h
theorem Cr(h:G:=by have:=w2;omega):G:=h
theorem Cs(h:G:=by simpa using hp):G:=h
theorem Ct(h:G:=by simpa using hx):G:=h
theorem Cu(h:G:=by simpa using ho):G:=h
theorem Cv(h:G:=by obtain⟨r,_,rfl⟩:=yAw.1 h;rfl):G:=h
theorem Cw(h:G:=by rw[yAg gC];exact hx0):G:=h
theorem Cy(h:G:=by simpa using a):G:=h
theorem Cz(h:G:=by simpa using b):G:=h
theorem Da(h:G:=by rw[e]):G:=h
theorem Db(h:G:=by simpa using g4):G:=h
theorem Dc(h:G:=by cases mx<;>simp_all):G:=h
theorem Dd(h:G:=by show PD.agg (PD.lF _)=_;rw[PD.qY];simp only[yAS,yBp];rw[vA Em.stop 4 fs .any];rfl):G:=h
theorem De(h:G:=by (first|rfl|(simp[FC,jM];repeat(first|rfl|(apply And.intro)))|(simp[FC,jM];done))):G:=h
theorem Df(h:G:=by (first|rfl|(simp[gL,jM];repeat(first|rfl|(apply And.intro)))|(simp[gL,jM];done))):G:=h
theorem Dg(h:G:=by (first|rfl|(simp[oB,jM];repeat(first|rfl|(apply And.intro)))|(simp[oB,jM];done))):G:=h
theorem Dh(h:G:=by rw[<-eI,yAD];omega):G:=h
theorem Di(h:G:=by show PD.agg (PD.lF _)=_;rw[PD.qY];simp only[yAS,yBp];rw[vA Em.eZ 3 sg .any];rfl):G:=h
theorem Dj(h:G:=by rw[yAe];exact hr.more _):G:=h
theorem Dk(h:G:=by show PD.agg (PD.lF _)=_;rw[PD.qY];simp only[yAS,yBp];rw[vA i64 1 wd .any];rfl):G:=h
theorem Dl(h:G:=by simp only[eK,fJ hx,hr]):G:=h
theorem Dm(h:G:=by simp[Act.eval,Act.put]):G:=h
theorem Dn(h:G:=by rw[<-hhS];exact eQ _ _ _):G:=h
theorem Dp(h:G:=by rw[<-hhS];exact jU _ _ _):G:=h
theorem Dq(h:G:=by rw[hL];intro h;cases h):G:=h
theorem Dr(h:G:=by (first|rfl|(simp[iQ];repeat(first|rfl|(apply And.intro)))|(simp[iQ];done))):G:=h
theorem Ds(h:G:=by rw[e]at kT;exact n3 (yAf (yCV.1 kT))):G:=h
theorem Dt(h:G:=by have:=(hrow hp).1;omega):G:=h
theorem Du(h:G:=by (first|rfl|(simp[Q7];repeat(first|rfl|(apply And.intro)))|(simp[Q7];done))):G:=h
theorem Dv(h:G:=by simpa using hi):G:=h
theorem Dw(h:G:=by simp only[fQ,hu]):G:=h
theorem Dx(h:G:=by cases a;unfold Addr.add;split<;>rfl):G:=h
theorem Dy(h:G:=by rw[<-sF];trivial):G:=h
theorem Dz(h:G:=by simpa using hn):G:=h
theorem DH(h:G:=by simp[Cx.put]):G:=h
theorem DI(h:G:=by rw[e1];rfl):G:=h
theorem Ea(h:G:=by simp only[PD.strip,PD.lF,vA];rfl):G:=h
theorem Eb(h:G:=by have:=(oM hp).1;omega):G:=h
theorem Ec(h:G:=by unfold tn at h;exact_mod_cast h):G:=h
theorem Ed(h:G:=by unfold j8;omega):G:=h
theorem Ee(h:G:=by intro e k n h;rw[hLB]at h;cases h):G:=h
theorem Ef(h:G:=by rw[<-hzs];simp only[yAi,yAR,yAO]):G:=h
theorem Eg(h:G:=by simp[ByteArray.size]):G:=h
theorem Eh(h:G:=by simp only[maxLen]at hmax;omega):G:=h
theorem Ei(h:G:=by simp[zeroValue,typeInfo,hi,hzv]):G:=h
theorem Ej(h:G:=by rw[<-hA,h];rfl):G:=h
theorem Ek(h:G:=by refine⟨l.length,?_⟩;exact cF (⟨rfl,yAk _,by rw[yBQ];exact hT⟩)):G:=h
theorem El(h:G:=by have:=hzc.1;simp at this;omega):G:=h
theorem En(h:G:=by simp[bA]at hb;omega):G:=h
theorem Ep(h:G:=by simp only[eK,fJ hx,fJ hy,hr]):G:=h
theorem Er(h:G:=by simpa [iL]using h):G:=h
theorem Es(h:G:=by simp only[yAR,yAO,yBx,yBW];rfl):G:=h
theorem Et(h:G:=by rw[yBC hi,ha]):G:=h
theorem Eu(h:G:=by rw[hls,yAH,hA];exact yAj wT):G:=h
theorem Ew(h:G:=by rw[tI (hs.bG id hd)];exact h):G:=h
theorem Ex(h:G:=by cases hx:fn.body<;>simp_all):G:=h
theorem Ey(h:G:=by simp only[uM,yBu,yBx];rfl):G:=h
theorem Ez(h:G:=by rw[<-hρ,yAg hlt];exact hid):G:=h
theorem Fa(h:G:=by rw[IntKind.wrap_u64];omega):G:=h
theorem Fb(h:G:=by simpa using hd):G:=h
theorem Fc(h:G:=by rw[e];exact hd):G:=h
theorem Fe(h:G:=by simpa using hu):G:=h
theorem Ff(h:G:=by rw[<-yBD,hd];rfl):G:=h
theorem Fg(h:G:=by simpa using h3):G:=h
theorem Fh(h:G:=by simpa using hk):G:=h
theorem Fi(h:G:=by simp[hlt]):G:=h
theorem Fj(h:G:=by simp[execOp,r]):G:=h
theorem Fk(h:G:=by rw[htk,yAH,<-yAi,hρ];rfl):G:=h
theorem Fl(h:G:=by simp[PD.strip]):G:=h
theorem Fm(h:G:=by rw[hi.size];exact pI ho):G:=h
theorem Fo(h:G:=by unfold lB;simp only[hu];cases x<;>cases y<;>rfl):G:=h
theorem Fp(h:G:=by rw[<-kV];exact eQ _ _ _):G:=h
theorem Fq(h:G:=by rw[<-kV];exact jU _ _ _):G:=h
theorem Fs(h:G:=by have:=yAX.1 hi;omega):G:=h
theorem Ft(h:G:=by rw[<-eI];exact yAj r1):G:=h
theorem Fu(h:G:=by rintro rfl;rw[fC (hs.bG i hd)]at hm;cases hm):G:=h
theorem Fv(h:G:=by rw[hAl];exact urow):G:=h
end
theorem tv:True:=trivial
theorem An {a b:Prop}(h:a)(k:b):a∧b:=⟨h,k⟩
theorem gn {α:Sort _}(e:α):∃x,e=x:=⟨_,rfl⟩
def yA:=@List.getElem?_eq_some_iff
def yAa:=@List.length_append
def yAb:=@Option.some.injEq
def yAc:=@Prod.mk.injEq
def yAd:=@List.getElem?_set_ne
def yAe:=@List.length_map
def yAf:=@List.eq_nil_of_length_eq_zero
def yAg:=@List.getElem?_append_left
def yAh:=@List.getElem?_eq_getElem
def yAi:=@List.append_assoc
def yAj:=@List.getElem?_set_self
def yAk:=@Nat.le_refl
def yAl:=@List.append_nil
def yAm:=@List.getElem_mem
def yAn:=@List.all_eq_true
def yAo:=@List.getElem?_map
def yAp:=@Nat.zero_add
def yAq:=@List.drop_eq_getElem_cons
def yAr:=@Bool.and_eq_true
def yAs:=@List.drop_eq_nil_of_le
def yAt:=@List.length_take
def yAu:=@decide_eq_decide
def yAv:=@List.getElem?_take
def yAw:=@List.mem_map
def yAx:=@Bool.false_eq_true
def yAy:=@List.mem_of_mem_take
def yAz:=@List.take_of_length_le
def yAA:=@List.getD_eq_getElem?_getD
def yAB:=@List.getElem?_concat_length
def yAC:=@Option.map_some
def yAD:=@List.length_set
def yAE:=@List.mem_of_getElem?
def yAF:=@Nat.zero_le
def yAG:=@List.map_congr_left
def yAH:=@List.map_append
def yAI:=@if_neg
def yAJ:=@if_pos
def yAK:=@congrArg
def yAL:=@if_true
def yAM:=@Go.run_underlying
def yAN:=@if_false
def yAO:=@List.nil_append
def yAP:=@Go.IntKind.wrap_i64
def yAQ:=@List.length_nil
def yAR:=@List.cons_append
def yAS:=@List.map_cons
def yAT:=@List.length_cons
def yAU:=@Option.some.inj
def yAV:=@Nat.le_trans
def yAW:=@Ne.symm
def yAX:=@List.mem_range
def yAY:=@decide_eq_true
def yAZ:=@Go.Sem.run_bind
def yBa:=@Bool.false_and
def yBb:=@Nat.not_lt_zero
def yBc:=@List.mem_cons_self
def yBd:=@decide_eq_false
def yBe:=@Int.toNat_natCast
def yBf:=@List.mem_append
def yBg:=@List.length_drop
def yBh:=@List.mem_cons
def yBi:=@List.mem_of_mem_drop
def yBj:=@Array.length_toList
def yBk:=@Go.Result.andThen_ok
def yBl:=@and_true
def yBm:=@Go.Sem.run_pure
def yBn:=@List.getElem?_drop
def yBo:=@Nat.add_zero
def yBp:=@List.map_nil
def yBq:=@List.flatten_cons
def yBr:=@List.flatMap_cons
def yBs:=@Nat.mod_lt
def yBt:=@Bool.true_and
def yBu:=@List.set_cons_zero
def yBv:=@List.getElem?_cons_zero
def yBw:=@Nat.add_mul
def yBx:=@List.set_cons_succ
def yBy:=@and_self
def yBz:=@List.map_map
def yBA:=@Go.Calls.mono
def yBB:=@List.getElem?_eq_none
def yBC:=@List.take_succ_eq_append_getElem
def yBD:=@List.drop_drop
def yBE:=@List.getElem_map
def yBF:=@List.length_mapIdx
def yBG:=@Go.Addr.mk.injEq
def yBH:=@List.mem_cons_of_mem
def yBI:=@Bool.not_eq_true'
def yBJ:=@Bool.not_true
def yBK:=@Nat.min_eq_left
def yBL:=@List.getElem?_cons_succ
def yBM:=@not_true_eq_false
def yBN:=@Go.Value.slice.injEq
def yBO:=@Nat.mul_le_mul_right
def yBP:=@Go.setRow_other
def yBQ:=@List.take_length
def yBR:=@Bool.or_eq_true
def yBS:=@List.getElem?_append_right
def yBT:=@Nat.lt_of_lt_of_le
def yBU:=@Nat.succ_mul
def yBV:=@Go.setRow_heap
def yBW:=@Nat.add_assoc
def yBX:=@List.not_mem_nil
def yBY:=@Int.tmod_eq_emod_of_nonneg
def yBZ:=@Go.heap_alloc_new
def yC:=@or_false
def yCa:=@or_true
def yCb:=@List.cons.injEq
def yCc:=@Bool.false_or
def yCd:=@List.drop_zero
def yCe:=@Int.natCast_nonneg
def yCf:=@Array.mem_toList_iff
def yCg:=@beq_iff_eq
def yCh:=@Nat.lt_or_ge
def yCi:=@Array.ext'
def yCj:=@List.take_take
def yCk:=@decide_eq_true_eq
def yCl:=@List.drop_length
def yCm:=@Bool.not_false
def yCn:=@Bool.and_self
def yCo:=@List.ext_getElem?
def yCp:=@true_and
def yCq:=@List.size_toArray
def yCr:=@List.take_left
def yCs:=@Nat.le_succ
def yCt:=@Nat.sub_self
def yCu:=@List.drop_of_length_le
def yCv:=@List.all_cons
def yCw:=@Bool.not_eq_true
def yCx:=@Nat.le_of_lt
def yCy:=@Array.getElem?_eq_getElem
def yCz:=@Go.run_sliceBound
def yCA:=@List.getElem_of_mem
def yCB:=@List.nodup_append
def yCC:=@Nat.add_sub_cancel
def yCD:=@List.head?_drop
def yCE:=@Go.CallsIn.mono
def yCF:=@Prod.ext
def yCG:=@Array.getElem?_toList
def yCH:=@Go.World.cell?_of_block
def yCI:=@Option.bind_some
def yCJ:=@Go.Value.pointer.injEq
def yCK:=@List.map_set
def yCL:=@Go.World.putObj_heap_other
def yCM:=@List.mem_singleton
def yCN:=@List.mem_or_eq_of_mem_set
def yCO:=@not_false_eq_true
def yCP:=@List.map_take
def yCQ:=@List.take_zero
def yCR:=@Nat.lt_irrefl
def yCS:=@Int.tdiv_eq_ediv_of_nonneg
def yCT:=@List.getElem?_set
def yCU:=@Array.getD_eq_getD_getElem?
def yCV:=@Nat.le_zero
def yCW:=@Nat.sub_zero
def yCX:=@List.length_singleton
def yCY:=@Nat.pos_of_ne_zero
def yCZ:=@Go.run_storeCells_at
def yDa:=@List.take_append_of_le_length
def yDb:=@List.getElem?_append
def yDc:=@Nat.mul_one
def yDd:=@List.mem_flatMap
def yDe:=@List.length_pos_iff
def yDf:=@List.range_succ
def yDg:=@List.getElem_mapIdx
def yDh:=@of_decide_eq_true
def yDi:=@Nat.zero_mul
def yDj:=@Bool.and_true
def yDk:=@Option.getD_some
def yDl:=@Bool.true_or
def yDm:=@List.foldl_cons
def yDn:=@List.range'_succ
def yDo:=@Nat.add_comm
def yDp:=@Array.toList_map
def yDq:=@Array.toList_range
def yDr:=@Nat.mul_pos
def yDs:=@Go.grownCap_ge
def yDt:=@Go.heap_alloc_old
def yDu:=@Go.size_zeroCells
def yDv:=@Array.getElem?_modify
def yDw:=@List.drop_take
def yDx:=@List.set_append_right
def yDy:=@Nat.mul_le_mul
def yDz:=@Int.emod_nonneg
def yDA:=@Int.emod_lt_of_pos
def yDB:=@List.any_eq_false
def yDC:=@List.getD_cons_succ
def yDD:=@Array.mem_of_getElem?
def yDE:=@Nat.one_ne_zero
def yDF:=@Array.getElem?_eq_some_iff
def yDG:=@List.take_succ_cons
def yDH:=@List.all_append
def yDI:=@Bool.or_false
def yDJ:=@Option.map_none
def yDK:=@List.mem_filterMap
def yDL:=@Nat.succ_ne_self
def yDM:=@Sum.inl.injEq
def yDN:=@Go.grownCap_le_maxLen
def yDO:=@Array.toList_append
def yDP:=@Array.size_append
def yDQ:=@List.getElem?_of_mem
def yDR:=@Nat.zero_lt_succ
def yDS:=@Nat.add_sub_cancel_left
def yDT:=@List.any_cons
def yDU:=@Array.size_replicate
def yDV:=@Go.run_callFunc_extern
def yDW:=@List.sum_cons
def yDX:=@Bool.or_eq_false_iff
def yDY:=@BitVec.eq_of_toNat_eq
def yDZ:=@List.set_append_left
def yE:=@Array.toList_setIfInBounds
def yEa:=@Array.getElem?_replicate
def yEb:=@Nat.eq_zero_or_pos
def yEc:=@List.flatMap_append
def yEd:=@Nat.eq_of_mul_eq_mul_right
def yEe:=@List.getElem?_eq_none_iff
def yEf:=@Array.eq_empty_of_size_eq_zero
def yEg:=@List.set_eq_of_length_le
def yEh:=@List.drop_succ_cons
def yEi:=@List.getElem_set_self
def yEj:=@List.drop_length_add_append
def yEk:=@List.set_getElem_self
def yEl:=@List.drop_append_of_le_length
def yEm:=@Array.getElem?_append
def yEn:=@List.set_eq_take_append_cons_drop
theorem A2 {A B:Prop}(a:A)(b:B):A∧B:=⟨a,b⟩
theorem A3 {A B C:Prop}(a:A)(b:B)(c:C):A∧B∧C:=⟨a,b,c⟩
theorem A4 {A B C D:Prop}(a:A)(b:B)(c:C)(d:D):A∧B∧C∧D:=⟨a,b,c,d⟩
theorem A5 {A B C D E:Prop}(a:A)(b:B)(c:C)(d:D)(e:E):A∧B∧C∧D∧E:=⟨a,b,c,d,e⟩
theorem A6 {A B C D E F:Prop}(a:A)(b:B)(c:C)(d:D)(e:E)(f:F):A∧B∧C∧D∧E∧F:=⟨a,b,c,d,e,f⟩
theorem A7 {A B C D E F G:Prop}(a:A)(b:B)(c:C)(d:D)(e:E)(f:F)(g:G):A∧B∧C∧D∧E∧F∧G:=⟨a,b,c,d,e,f,g⟩
theorem A8 {A B C D E F G H:Prop}(a:A)(b:B)(c:C)(d:D)(e:E)(f:F)(g:G)(h:H):A∧B∧C∧D∧E∧F∧G∧H:=⟨a,b,c,d,e,f,g,h⟩
theorem A9 {A B C D E F G H I:Prop}(a:A)(b:B)(c:C)(d:D)(e:E)(f:F)(g:G)(h:H)(i:I):A∧B∧C∧D∧E∧F∧G∧H∧I:=⟨a,b,c,d,e,f,g,h,i⟩
theorem A10 {A B C D E F G H I J:Prop}(a:A)(b:B)(c:C)(d:D)(e:E)(f:F)(g:G)(h:H)(i:I)(j:J):A∧B∧C∧D∧E∧F∧G∧H∧I∧J:=⟨a,b,c,d,e,f,g,h,i,j⟩
theorem A11 {A B C D E F G H I J K:Prop}(a:A)(b:B)(c:C)(d:D)(e:E)(f:F)(g:G)(h:H)(i:I)(j:J)(k:K):A∧B∧C∧D∧E∧F∧G∧H∧I∧J∧K:=⟨a,b,c,d,e,f,g,h,i,j,k⟩
theorem A12 {A B C D E F G H I J K L:Prop}(a:A)(b:B)(c:C)(d:D)(e:E)(f:F)(g:G)(h:H)(i:I)(j:J)(k:K)(l:L):A∧B∧C∧D∧E∧F∧G∧H∧I∧J∧K∧L:=⟨a,b,c,d,e,f,g,h,i,j,k,l⟩
theorem A13 {A B C D E F G H I J K L M:Prop}(a:A)(b:B)(c:C)(d:D)(e:E)(f:F)(g:G)(h:H)(i:I)(j:J)(k:K)(l:L)(m:M):A∧B∧C∧D∧E∧F∧G∧H∧I∧J∧K∧L∧M:=⟨a,b,c,d,e,f,g,h,i,j,k,l,m⟩
theorem A14 {A B C D E F G H I J K L M N:Prop}(a:A)(b:B)(c:C)(d:D)(e:E)(f:F)(g:G)(h:H)(i:I)(j:J)(k:K)(l:L)(m:M)(n:N):A∧B∧C∧D∧E∧F∧G∧H∧I∧J∧K∧L∧M∧N:=⟨a,b,c,d,e,f,g,h,i,j,k,l,m,n⟩
theorem A15 {A B C D E F G H I J K L M N O:Prop}(a:A)(b:B)(c:C)(d:D)(e:E)(f:F)(g:G)(h:H)(i:I)(j:J)(k:K)(l:L)(m:M)(n:N)(o:O):A∧B∧C∧D∧E∧F∧G∧H∧I∧J∧K∧L∧M∧N∧O:=⟨a,b,c,d,e,f,g,h,i,j,k,l,m,n,o⟩
theorem A16 {A B C D E F G H I J K L M N O P:Prop}(a:A)(b:B)(c:C)(d:D)(e:E)(f:F)(g:G)(h:H)(i:I)(j:J)(k:K)(l:L)(m:M)(n:N)(o:O)(p:P):A∧B∧C∧D∧E∧F∧G∧H∧I∧J∧K∧L∧M∧N∧O∧P:=⟨a,b,c,d,e,f,g,h,i,j,k,l,m,n,o,p⟩
theorem A17 {A B C D E F G H I J K L M N O P Q:Prop}(a:A)(b:B)(c:C)(d:D)(e:E)(f:F)(g:G)(h:H)(i:I)(j:J)(k:K)(l:L)(m:M)(n:N)(o:O)(p:P)(q:Q):A∧B∧C∧D∧E∧F∧G∧H∧I∧J∧K∧L∧M∧N∧O∧P∧Q:=⟨a,b,c,d,e,f,g,h,i,j,k,l,m,n,o,p,q⟩
theorem A18 {A B C D E F G H I J K L M N O P Q R:Prop}(a:A)(b:B)(c:C)(d:D)(e:E)(f:F)(g:G)(h:H)(i:I)(j:J)(k:K)(l:L)(m:M)(n:N)(o:O)(p:P)(q:Q)(r:R):A∧B∧C∧D∧E∧F∧G∧H∧I∧J∧K∧L∧M∧N∧O∧P∧Q∧R:=⟨a,b,c,d,e,f,g,h,i,j,k,l,m,n,o,p,q,r⟩
theorem A19 {A B C D E F G H I J K L M N O P Q R S:Prop}(a:A)(b:B)(c:C)(d:D)(e:E)(f:F)(g:G)(h:H)(i:I)(j:J)(k:K)(l:L)(m:M)(n:N)(o:O)(p:P)(q:Q)(r:R)(s:S):A∧B∧C∧D∧E∧F∧G∧H∧I∧J∧K∧L∧M∧N∧O∧P∧Q∧R∧S:=⟨a,b,c,d,e,f,g,h,i,j,k,l,m,n,o,p,q,r,s⟩
theorem A20 {A B C D E F G H I J K L M N O P Q R S T:Prop}(a:A)(b:B)(c:C)(d:D)(e:E)(f:F)(g:G)(h:H)(i:I)(j:J)(k:K)(l:L)(m:M)(n:N)(o:O)(p:P)(q:Q)(r:R)(s:S)(t:T):A∧B∧C∧D∧E∧F∧G∧H∧I∧J∧K∧L∧M∧N∧O∧P∧Q∧R∧S∧T:=⟨a,b,c,d,e,f,g,h,i,j,k,l,m,n,o,p,q,r,s,t⟩
def xE:Nat->Option (IntKind×List Int):=λg=>if g=0 then some (.u64,[1,10,100,1000,10000,100000,1000000,10000000,100000000,1000000000,10000000000,100000000000,1000000000000,10000000000000,100000000000000,1000000000000000,10000000000000000,100000000000000000,1000000000000000000,10000000000000000000])else if g=2 then some (.u8,[0,1,28,2,29,14,24,3,30,22,20,15,25,17,4,8,31,27,13,23,21,19,16,7,26,12,18,6,11,5,10,9])else if g=3 then some (.u8,[0,1,56,2,57,49,28,3,61,58,42,50,38,29,17,4,62,47,59,36,45,43,51,22,53,39,33,30,24,18,12,5,63,55,48,27,60,41,37,16,46,35,44,21,52,32,23,11,54,26,40,15,34,20,31,10,25,14,19,9,13,8,7,6])else none
def FX:Nat->Option IntKind:=λg=>if g=1 then some .i64 else none
@[simp] def M9:Nat->Bool:=λt=>decide (t=180)
@[simp] def DO:Nat->Nat->Bool:=λs d=>decide (s=9)&&decide (d=97)||decide (s=97)&&decide (d=9)
@[simp] def SU:Nat->Bool:=λt=>decide (t=97)||decide (t=240)
@[simp] def aJt:Nat->Bool:=λt=>decide (t=31)||decide (t=32)||decide (t=33)||decide (t=51)||decide (t=54)||decide (t=90)
@[simp] def aJu:Nat->Nat->Bool:=λt n=>decide (n=153)||decide (n=158)||(decide (t=33)&&decide (n=275))
@[simp] def lE(t n:Nat):Bool:=aJt t&&!aJu t n
section
open Go.RowKit
inductive Tok where
 |any
 |full
 |nil
 |jF
 |jR
 |own (id:Nat)
inductive PD where
 |bool (b:Bool)
 |int (k:IntKind) (n:Int)
 |str (s:List UInt8)
 |agg (cs:List PD)
 |slice (size:Nat) (xs:List PD) (tok:Tok)
 |ptr (id off:Nat)
 |eO (cs:List PD) (off:Nat)
 |gR
 |func (f:Nat) (cap:List PD)
 |jT (f:Nat) (first:List PD)
 |yield (id:Nat)
 |iX
 |fT (v:Value)
 |typed (t:TypeId) (cs:List PD)
 |dJ (id off n size:Nat)
 |aR (id ver off n size:Nat)
 |dH (id ver off:Nat)
 |fK (id:Nat)
 |iface (t:TypeId) (p:PD)
 |aI (vs:List PD)
instance:Inhabited PD:=⟨.aI []⟩
def PD.cells:PD->List PD
 |.agg cs=>cs
 |.typed _ cs=>cs
 |p=>[p]
inductive GJ where
 |ready
 |busy
 |done (jump:Code)
inductive aB where
 |none
 |box (p:PD)
 |own (e:TypeId) (size n:Nat)
 |row (e:TypeId) (size ver:Nat) (cs:List PD)
 |map (es:List (PD×PD))
 |mark
 |loop (st:GJ) (fr:List PD) (ps:List Tmp) (assign body:Code)
abbrev Fw:=Nat->List PD->List aB->Option (PD×List aB)
abbrev Fx:=Nat->Nat->List (List PD)
abbrev Fy:=Nat->List (List PD)
abbrev Fz:=List (List PD)
abbrev Gb:=List aB
abbrev Gc:=List PD
abbrev Gd:=List UInt8
abbrev Ge:=List Value
abbrev Gf:=Array Value
abbrev Gg:=Array Oper
def GJ.fits(r:Loop):GJ->Prop
 |.ready=>r.state=.ready/\r.pending=none
 |.busy=>r.state=.busy
 |.done j=>r.state=.done/\r.pending=some j
def lI:Option aB->Prop
 |some (.own _ _ _)=>False
 |some (.row _ _ _ _)=>False
 |_=>True
def bA:Value->Option Nat
 |.pointer (some a)=>some a.block
 |.slice (some a) _ _=>some a.block
 |.map r=>r
 |_=>none
def aB.aJr(v:Value)(a:Addr):aB->Prop
 |.none=>True
 |.box _=>∀b,bA v=some b->a.block≠b
 |.own _ size n=>∀b,bA v=some b->a.block=b->a.off<n*size
 |.row _ _ _ _=>∀b,bA v=some b->a.block≠b
 |.map _=>True
 |.mark=>True
 |.loop _ _ _ _ _=>True
structure Cx where
 w:World
 ρ:Nat->Value
 σ:Gb
 D:Nat->Prop
 X:Addr->Prop
def Cx.av(c:Cx)(a:Addr):Prop:=c.X a/\∀id o,c.D id->c.σ[id]?=some o->o.aJr (c.ρ id) a
def rC(c:Cx)(size n cap:Nat)(v:Value):Tok->Prop
 |.any=>True
 |.full=>n=cap
 |.nil=>v=.slice none 0 0/\n=0/\cap=0
 |.jF=>∃k m,v=.slice none k m
 |.jR=>∃a k m,v=.slice (some a) k m
 |.own id=>c.D id/\∃e m,c.σ[id]?=some (.own e size m)/\n<=m/\(n=m->c.ρ id=v)
def BY(c:Cx)(id ver:Nat)(Q:Nat->Value->Prop):Prop:=c.D id/\∀e sz fO cs,c.σ[id]?=some (.row e sz fO cs)->ver<=fO/\(ver=fO->Q sz (c.ρ id))
def TN:Value->Bool
 |.nilIface=>true
 |.map none=>true
 |.chan none=>true
 |.float _ _=>true
 |_=>false
inductive VR (c:Cx):Value->PD->Prop where
 |bool (b:Bool):VR c (.bool b) (.bool b)
 |int (k:IntKind) (n:Int):VR c (.int k n) (.int k n)
 |str (s:List UInt8):VR c (.string ⟨s.toArray⟩) (.str s)
 |agg (cs:List Value) (ds:List PD):cs.length=ds.length->(∀v∈cs,v.oneCell'=true) ->
   (∀(i:Nat) (v:Value) (d:PD),cs[i]?=some v->ds[i]?=some d->VR c v d)->VR c (.agg cs.toArray) (.agg ds)
 |slice (A:Option Addr) (n cap size:Nat) (xs:List PD) (tok:Tok) (fl:List Value) :
   n=xs.length->n<=cap->cap<=maxLen->(∀x∈xs,x.cells.length=size)->fl.length=n*size->(∀v∈fl,v.oneCell'=true) ->
   (∀(j:Nat) (v:Value),fl[j]?=some v->∃ad,A=some ad/\c.w.cell? (ad.add j)=some v/\c.av (ad.add j)) ->
   (∀(j:Nat) (v:Value) (d:PD),fl[j]?=some v->(xs.flatMap PD.cells)[j]?=some d->VR c v d) ->
   rC c size n cap (.slice A n cap) tok->VR c (.slice A n cap) (.slice size xs tok)
 |ptr (id off b:Nat):c.D id->(∃p,c.σ[id]?=some (.box p))->c.ρ id=.pointer (some ⟨b,0,none⟩)->VR c (.pointer (some ⟨b,off,none⟩)) (.ptr id off)
 |dJ (id off n cap size b:Nat):c.D id->(∃p,c.σ[id]?=some (.box p))->c.ρ id=.pointer (some ⟨b,0,none⟩)->n<=cap->cap<=maxLen->VR c (.slice (some ⟨b,off,none⟩) n cap) (.dJ id off n size)
 |aR (id ver off n cap size b:Nat):BY c id ver (λsz r=>sz=size/\∃C,r=.slice (some ⟨b,0,none⟩) 0 C/\off+cap*size=C*size)->n<=cap->cap<=maxLen ->
   VR c (.slice (some ⟨b,off,none⟩) n cap) (.aR id ver off n size)
 |dH (id ver off b:Nat):BY c id ver (λ_ r=>∃C,r=.slice (some ⟨b,0,none⟩) 0 C)->VR c (.pointer (some ⟨b,off,none⟩)) (.dH id ver off)
 |fK (id b:Nat):c.D id->lI c.σ[id]?->c.ρ id=.map (some b)->VR c (.map (some b)) (.fK id)
 |iface (t:TypeId) (v:Value) (p:PD):VR c v p->VR c (.iface t v) (.iface t p)
 |eO (ad:Addr) (fl:List Value) (ds:List PD) (off:Nat):fl.length=ds.length->(∀v∈fl,v.oneCell'=true) ->
   (∀(j:Nat) (v:Value),fl[j]?=some v->c.w.cell? (ad.add j)=some v/\c.av (ad.add j)) ->
   (∀(j:Nat) (v:Value) (d:PD),fl[j]?=some v->ds[j]?=some d->VR c v d)->VR c (.pointer (some (ad.add off))) (.eO ds off)
 |gR:VR c (.pointer none) .gR
 |func (f:Nat) (cs:List Value) (ds:List PD):cs.length=ds.length ->
   (∀(i:Nat) (v:Value) (d:PD),cs[i]?=some v->ds[i]?=some d->VR c v d)->VR c (.func (.func f) #[] cs.toArray) (.func f ds)
 |jT (f:Nat) (cs:List Value) (ds:List PD):cs.length=ds.length ->
   (∀(i:Nat) (v:Value) (d:PD),cs[i]?=some v->ds[i]?=some d->VR c v d)->VR c (.func (.func f) cs.toArray #[]) (.jT f ds)
 |iX:VR c .nilFunc .iX
 |fT (v:Value):TN v=true->VR c v (.fT v)
 |yield (id l:Nat):c.D id->lI c.σ[id]?->c.ρ id=.pointer (some ⟨l,0,none⟩)->VR c (.func (.yield l) #[] #[]) (.yield id)
 |aI (cs:List Value) (ds:List PD):cs.length=ds.length ->
   (∀(i:Nat) (v:Value) (d:PD),cs[i]?=some v->ds[i]?=some d->VR c v d)->VR c (.tuple cs.toArray) (.aI ds)
def aV(c:Cx)(cs:List Value)(ds:List PD):Prop:=cs.length=ds.length/\∀(i:Nat) (v:Value) (d:PD),cs[i]?=some v->ds[i]?=some d->VR c v d
def y8(g:Nat):Option (List PD):=match xE g with
 |some (k,xs)=>some (xs.map (PD.int k))
 |none=>none
def N4(c:Cx):Prop:=∀g ds,y8 g=some ds->VR c (.pointer (some ⟨g,0,none⟩)) (.eO ds 0)
def aAp(g:Nat)(cs:Array Value):Prop:=(∀k zs,xE g=some (k,zs)->cs=(zs.map (Value.int k)).toArray)/\∀k,FX g=some k->∃m,cs=#[.int k m]
def aAq(g:Nat):Bool:=(xE g).isSome||(FX g).isSome
def Gh(c:Cx):Prop:=∀g,aAq g=true->(∃cs T fz,c.w.heap[g]?=some (.cells cs T fz)/\aAp g cs)/\∀id,c.D id->bA (c.ρ id)≠some g
def Gl(c:Cx):Prop:=N4 c/\Gh c
structure Sr (c:Cx):Prop where
 box:∀id p,c.D id->c.σ[id]?=some (.box p)->∃b cs T,c.ρ id=.pointer (some ⟨b,0,none⟩)/\c.w.heap[b]?=some (.cells cs T (0,0)) /\
  aV c cs.toList p.cells/\(∀v∈cs.toList,v.oneCell'=true)/\∀t ds,p=.typed t ds->T=t
 own:∀id e size n,c.D id->c.σ[id]?=some (.own e size n)->∃xs,c.w.ownsRowF 0 e size (c.ρ id) n xs
 row:∀id e size ver ds,c.D id->c.σ[id]?=some (.row e size ver ds)->∃b C cur,c.ρ id=.slice (some ⟨b,0,none⟩) 0 C/\c.w.heap[b]?=some (.cells cur e (0,0))/\cur.size=C*size/\C<=maxLen/\0<size /\
  ds.length<=cur.size/\aV c (cur.toList.take ds.length) ds/\∀v∈cur.toList,v.oneCell'=true
 map:∀id es,c.D id->c.σ[id]?=some (.map es)->∃b ents clock,c.ρ id=.map (some b)/\c.w.heap[b]?=some (.map ents clock)/\aV c (ents.toList.map MapEntry.key) (es.map Prod.fst)/\aV c (ents.toList.map MapEntry.val) (es.map Prod.snd)
 mark:∀id,c.D id->c.σ[id]?=some .mark->∃b,c.ρ id=.pointer (some ⟨b,0,none⟩)/\c.w.heap[b]?=some (.deferred (some []))
 loop:∀id st fr ps assign body,c.D id->c.σ[id]?=some (.loop st fr ps assign body)->∃b r,c.ρ id=.pointer (some ⟨b,0,none⟩)/\c.w.heap[b]?=some (.loop r) /\
  r.params=ps.toArray/\r.assign=assign/\r.body=body/\aV c r.tmps.toList fr/\st.fits r
 inj:∀id id' b,c.D id->c.D id'->id≠id'->bA (c.ρ id)=some b->bA (c.ρ id')≠some b
 lt:∀id b,c.D id->bA (c.ρ id)=some b->b<c.w.heap.size
 bG:∀id,c.D id->id<c.σ.length
 fresh:∀a:Addr,c.w.heap.size<=a.block->c.X a
 jQ:Gl c
structure Nx (fl:Nat) (c c':Cx):Prop where
 X:c'.X=c.X
 os:c'.w.os=c.w.os
 tape:c'.w.tape=c.w.tape
 output:c'.w.output=c.w.output
 size:c.w.heap.size<=c'.w.heap.size
 len:c.σ.length<=c'.σ.length
 cell:∀a v,c.av a->c.w.cell? a=some v->c'.av a/\c'.w.cell? a=some v
 bG:∀id,c.D id->c'.D id
 new:∀id,c'.D id->c.D id\/c.σ.length<=id
 sG:∀id p,c.D id->c.σ[id]?=some (.box p)->c'.ρ id=c.ρ id/\∃p',c'.σ[id]?=some (.box p')
 nE:∀id,c.D id->lI c.σ[id]?->c'.ρ id=c.ρ id/\lI c'.σ[id]?
 tF:∀id e s n,c.D id->c.σ[id]?=some (.own e s n)->∃n',c'.σ[id]?=some (.own e s n')/\n<=n'/\(n'=n->c'.ρ id=c.ρ id)
 tH:∀id e s v cs,c.D id->c'.σ[id]?=some (.row e s v cs)->∃v0 cs0,c.σ[id]?=some (.row e s v0 cs0)/\v0<=v/\(v0=v->c'.ρ id=c.ρ id)
 back:∀id b,c'.D id->bA (c'.ρ id)=some b->b<c.w.heap.size->c.D id/\bA (c.ρ id)=some b
 frame:∀k,k<c.w.heap.size->(∀id,c.D id->fl<=id->bA (c.ρ id)≠some k)->c'.w.heap[k]?=c.w.heap[k]?
 ro:∀id,id<fl->id<c.σ.length->c'.σ[id]?=c.σ[id]?
 hole:∀id,id<c.σ.length->¬c.D id->c'.σ[id]?=c.σ[id]?
theorem Nx.refl(fl:Nat)(c:Cx):Nx fl c c:=
 ⟨rfl,rfl,rfl,rfl,yAk _,yAk _,λ_ _ h h'=>⟨h,h'⟩,λ_ h=>h,λ_ h=>.inl h,λ_ p _ h=>⟨rfl,p,h⟩,λ_ _ h=>⟨rfl,h⟩,
  λ_ _ _ n _ h=>⟨n,h,yAk _,λ_=>rfl⟩,λ_ _ _ v cs _ h=>⟨v,cs,h,yAk _,λ_=>rfl⟩,λ_ _ h h' _=>⟨h,h'⟩,λ_ _ _=>rfl,λ_ _ _=>rfl,λ_ _ _=>rfl⟩
theorem Nx.trans{fl:Nat}{a b c:Cx}(h:Nx fl a b)(k:Nx fl b c):Nx fl a c where
 X:=k.X.trans h.X
 os:=k.os.trans h.os
 tape:=k.tape.trans h.tape
 output:=k.output.trans h.output
 size:=yAV h.size k.size
 len:=yAV h.len k.len
 cell:=λx v h1 h2=>let ⟨q1,q2⟩:=h.cell x v h1 h2;k.cell x v q1 q2
 bG:=λid hd=>k.bG id (h.bG id hd)
 new:=λid hd=>(k.new id hd).elim (λq=>h.new id q) (λq=>.inr (yAV h.len q))
 sG:=λid p hd hs=>by
  obtain⟨e1,p',hs'⟩:=h.sG id p hd hs;obtain⟨e2,p'',TO⟩:=k.sG id p' (h.bG id hd) hs';exact⟨e2.trans e1,p'',TO⟩
 nE:=λid hd hn=>by
  obtain⟨e1,hn'⟩:=h.nE id hd hn;obtain⟨e2,aJs⟩:=k.nE id (h.bG id hd) hn';exact⟨e2.trans e1,aJs⟩
 tF:=λid e s n hd hs=>by
  obtain⟨n',hs',hle,he⟩:=h.tF id e s n hd hs;obtain⟨n'',TO,hle',he'⟩:=k.tF id e s n' (h.bG id hd) hs';exact⟨n'',TO,yAV hle hle',λheq=>(he' Ah).trans (he Ah)⟩
 tH:=λid e s v cs hd hs=>by
  obtain⟨v1,BW,h1,h2,h3⟩:=k.tH id e s v cs (h.bG id hd) hs;obtain⟨v2,JY,g1,g2,g3⟩:=h.tH id e s v1 BW hd h1;exact⟨v2,JY,g1,yAV g2 h2,λheq=>(h3 Ah).trans (g3 Ah)⟩
 back:=λid bk hd hb hlt=>by
  obtain⟨q1,q2⟩:=k.back id bk hd hb (yBT hlt h.size);exact h.back id bk q1 q2 hlt
 frame:=λn hn hx=>by
  rw[k.frame n (yBT hn h.size) (λid hd hfl hb=>?_)]
  .exact h.frame n hn hx
  .obtain⟨q1,q2⟩:=h.back id n hd hb hn;exact hx id q1 hfl q2
 ro:=λid hlt hl=>(k.ro id hlt (yBT hl h.len)).trans (h.ro id hlt hl)
 hole:=λid hl hd=>(k.hole id (yBT hl h.len) (λhb=>(h.new id hb).elim hd (λq=>Ah))).trans (h.hole id hl hd)
theorem Nx.weaken{fl eJ:Nat}{a b:Cx}(h:Nx fl a b)(hle:eJ<=fl):Nx eJ a b:=
 { h with frame:=λk hk hx=>h.frame k hk (λid hd hf=>hx id hd (yAV hle hf)),ro:=λid hlt hl=>h.ro id (yBT hlt hle) hl }
structure Nv (c c':Cx):Prop where
 cell:∀a v,c.av a->c.w.cell? a=some v->c'.av a/\c'.w.cell? a=some v
 bG:∀id,c.D id->c'.D id
 sG:∀id p,c.D id->c.σ[id]?=some (.box p)->c'.ρ id=c.ρ id/\∃p',c'.σ[id]?=some (.box p')
 nE:∀id,c.D id->lI c.σ[id]?->c'.ρ id=c.ρ id/\lI c'.σ[id]?
 tF:∀id e s n,c.D id->c.σ[id]?=some (.own e s n)->∃n',c'.σ[id]?=some (.own e s n')/\n<=n'/\(n'=n->c'.ρ id=c.ρ id)
 tH:∀id e s v cs,c.D id->c'.σ[id]?=some (.row e s v cs)->∃v0 cs0,c.σ[id]?=some (.row e s v0 cs0)/\v0<=v/\(v0=v->c'.ρ id=c.ρ id)
theorem Nx.S4{fl:Nat}{c c':Cx}(h:Nx fl c c'):Nv c c':=⟨h.cell,h.bG,h.sG,h.nE,h.tF,h.tH⟩
theorem BY.nU{c c':Cx}(h:Nv c c'){id ver:Nat}{Q:Nat->Value->Prop}(hp:BY c id ver Q):BY c' id ver Q:=by
 refine⟨h.bG id hp.1,λe sz v cs hs=>?_⟩;obtain⟨v0,cs0,h1,h2,h3⟩:=h.tH id e sz v cs hp.1 hs;obtain⟨h4,h5⟩:=hp.2 e sz v0 cs0 h1;refine⟨yAV h4 h2,λheq=>?_⟩;rw[h3 Ah];exact h5 Ah
theorem rC.nU{c c':Cx}(h:Nv c c'){size n cap:Nat}{v:Value}{t:Tok}(ht:rC c size n cap v t):rC c' size n cap v t:=by
 cases t with
 |any=>trivial
 |full=>exact ht
 |nil=>exact ht
 |jF=>exact ht
 |jR=>exact ht
 |own id=>
  obtain⟨hd,e,m,hs,hle,he⟩:=ht;obtain⟨m',hs',hle',he'⟩:=h.tF id e size m hd hs;exact⟨h.bG id hd,e,m',hs',yAV hle hle',λheq=>(he' Ah).trans (he Ah)⟩
theorem VR.nU{c c':Cx}(h:Nv c c'){v:Value}{p:PD}(hv:VR c v p):VR c' v p:=by
 induction hv with
 |bool b=>exact .bool b
 |int k n=>exact .int k n
 |str s=>exact .str s
 |agg cs ds hl h1 _ ih=>exact .agg cs ds hl h1 ih
 |slice A n cap size xs tok eJ hn hc hm hx hf h1 hcell _ ht ih=>
  refine .slice A n cap size xs tok eJ hn hc hm hx hf h1 (λj v hj=>?_) ih (ht.nU h);obtain⟨ad,e,h2,h3⟩:=hcell j v hj;obtain⟨q1,q2⟩:=h.cell _ _ h3 h2;exact⟨ad,e,q2,q1⟩
 |ptr id off b hd hs hr=>
  obtain⟨p,hs⟩:=hs;obtain⟨e,p',hs'⟩:=h.sG id p hd hs;exact .ptr id off b (h.bG id hd) ⟨p',hs'⟩ (e.trans hr)
 |dJ id off n cap size b hd hs hr h1 h2=>
  obtain⟨p,hs⟩:=hs;obtain⟨e,p',hs'⟩:=h.sG id p hd hs;exact .dJ id off n cap size b (h.bG id hd) ⟨p',hs'⟩ (e.trans hr) h1 h2
 |aR id ver off n cap size b hp h1 h2=>exact .aR id ver off n cap size b (hp.nU h) h1 h2
 |dH id ver off b hp=>exact .dH id ver off b (hp.nU h)
 |fK id b hd hn hr=>
  obtain⟨e,hn'⟩:=h.nE id hd hn;exact .fK id b (h.bG id hd) hn' (e.trans hr)
 |iface t v p _ ih=>exact .iface t v p ih
 |eO ad eJ ds off hl h1 hcell _ ih=>
  refine .eO ad eJ ds off hl h1 (λj v hj=>?_) ih;obtain⟨h2,h3⟩:=hcell j v hj;obtain⟨q1,q2⟩:=h.cell _ _ h3 h2;exact⟨q2,q1⟩
 |gR=>exact .gR
 |func f cs ds hl _ ih=>exact .func f cs ds hl ih
 |jT f cs ds hl _ ih=>exact .jT f cs ds hl ih
 |iX=>exact .iX
 |fT v h=>exact .fT v h
 |yield id l hd hn hr=>
  obtain⟨e,hn'⟩:=h.nE id hd hn;exact .yield id l (h.bG id hd) hn' (e.trans hr)
 |aI cs ds hl _ ih=>exact .aI cs ds hl ih
theorem VR.mono{fl:Nat}{c c':Cx}(h:Nx fl c c'){v:Value}{p:PD}(hv:VR c v p):VR c' v p:=hv.nU h.S4
theorem aV.nU{c c':Cx}(h:Nv c c'){cs:Ge}{ds:Gc}(hv:aV c cs ds):aV c' cs ds:=
 ⟨hv.1,λi v d h1 h2=>(hv.2 i v d h1 h2).nU h⟩
theorem N4.nU{c c':Cx}(h:Nv c c')(hg:N4 c):N4 c':=λg ds e=>(hg g ds e).nU h
theorem Gl.mono{fl:Nat}{c c':Cx}(h:Nx fl c c')(hg:Gl c):Gl c':=by
 refine⟨hg.1.nU h.S4,λg hh=>?_⟩;obtain⟨⟨cs,T,fz,e1,e2⟩,e3⟩:=hg.2 g hh;have hlt:g<c.w.heap.size:=(yDF.1 e1).1;refine⟨⟨cs,T,fz,?_,e2⟩,λid hd hb=>?_⟩
 .rw[h.frame g hlt (λid hd _=>e3 id hd)];exact e1
 .obtain⟨q1,q2⟩:=h.back id g hd hb hlt;exact e3 id q1 q2
theorem aV.mono{fl:Nat}{c c':Cx}(h:Nx fl c c'){cs:Ge}{ds:Gc}(hv:aV c cs ds):aV c' cs ds:=
 ⟨hv.1,λi v d h1 h2=>(hv.2 i v d h1 h2).mono h⟩
mutual
def PD.strip:PD->PD
 |.agg cs=>.agg (PD.lF cs)
 |.typed t cs=>.typed t (PD.lF cs)
 |.slice _ [] _=>.slice 0 [] .any
 |.slice n (x::xs) _=>.slice n (x.strip::PD.lF xs) .any
 |.aI vs=>.aI (PD.lF vs)
 |p=>p
def PD.lF:List PD->Gc
 | []=>[]
 |x::xs=>x.strip::PD.lF xs
end
mutual
def PD.bQ:PD->Bool
 |.agg cs=>PD.fH cs
 |.typed _ cs=>PD.fH cs
 |.slice _ xs tok=>PD.fH xs&&(match tok with|.own _=>false|_=>true)
 |.aI vs=>PD.fH vs
 |.eO cs _=>PD.fH cs
 |.func _ cap=>PD.fH cap
 |.jT _ cap=>PD.fH cap
 |.ptr _ _=>false
 |.dJ _ _ _ _=>false
 |.aR _ _ _ _ _=>false
 |.dH _ _ _=>false
 |.fK _=>false
 |.iface _ p=>p.bQ
 |.yield _=>false
 |_=>true
def PD.fH:List PD->Bool
 | []=>true
 |x::xs=>x.bQ&&PD.fH xs
end
theorem PD.qY:∀xs:List PD,PD.lF xs=xs.map PD.strip
 | []=>by simp[PD.lF]
 |x::xs=>by simp[PD.lF,PD.qY xs]
theorem PD.r9:∀xs:List PD,PD.fH xs=xs.all PD.bQ
 | []=>by simp[PD.fH]
 |x::xs=>by simp[PD.fH,PD.r9 xs]
theorem PD.aB3(p:PD):p.strip.cells=p.cells.map PD.strip:=by
 cases p with
 |slice n xs tok=>cases xs<;>simp[PD.strip,PD.cells]
 |_=>simp[PD.strip,PD.cells,PD.qY]
theorem PD.r8(n:Nat)(xs:List PD)(tok:Tok):PD.strip (.slice n xs tok)=.slice (if xs.length=0 then 0 else n) (xs.map PD.strip) .any:=by
 cases xs<;>simp[PD.strip,PD.qY]
theorem VR.strip{c:Cx}{v:Value}{p:PD}(hv:VR c v p):VR c v p.strip:=by
 induction hv with
 |bool b=>simp only[PD.strip];exact .bool b
 |int k n=>simp only[PD.strip];exact .int k n
 |str s=>simp only[PD.strip];exact .str s
 |agg cs ds hl h1 _ ih=>
  simp only[PD.strip,PD.qY];refine .agg cs _ Cq h1 (λi v d hv hd=>?_);exact js
 |slice A n cap size xs tok fl hn hc hm hx hf h1 hcell _ ht ih=>
  rw[PD.r8];refine .slice A n cap _ _ .any fl Dz hc hm ?_ ?_ h1 hcell (λj v d hv hd=>?_) trivial
  .intro x hxm;obtain⟨y,hy,rfl⟩:=yAw.1 hxm;rw[PD.aB3,yAe,hx y hy];have:xs.length≠0:=λe=>by rw[yAf e]at hy;cases hy
   rw[yAI this]
  .rw[hf,hn];split
   .rename_i h0;rw[h0];simp
   .rfl
  .rw[List.flatMap_map]at hd;have e:(xs.flatMap λa=>(PD.strip a).cells)=(xs.flatMap PD.cells).map PD.strip:=by
    rw[List.map_flatMap];exact yAK (λf=>xs.flatMap f) (funext PD.aB3)
   rw[e,yAo]at hd;cases hx:(xs.flatMap PD.cells)[j]? with
   |none=>rw[hx]at hd;simp at hd
   |some x=>
    rw[hx]at hd;simp only[yAC,yAb]at hd;subst hd;exact ih j v x hv hx
 |ptr id off b hd hs hr=>simp only[PD.strip];exact .ptr id off b hd hs hr
 |dJ id off n cap size b hd hs hr h1 h2=>simp only[PD.strip];exact .dJ id off n cap size b hd hs hr h1 h2
 |aR id ver off n cap size b hp h1 h2=>simp only[PD.strip];exact .aR id ver off n cap size b hp h1 h2
 |dH id ver off b hp=>simp only[PD.strip];exact .dH id ver off b hp
 |fK id b hd hn hr=>simp only[PD.strip];exact .fK id b hd hn hr
 |iface t v p h _=>simp only[PD.strip];exact .iface t v p h
 |eO ad fl ds off hl h1 hcell h2 _=>simp only[PD.strip];exact .eO ad fl ds off hl h1 hcell h2
 |gR=>simp only[PD.strip];exact .gR
 |func f cs ds hl h _=>simp only[PD.strip];exact .func f cs ds hl h
 |jT f cs ds hl h _=>simp only[PD.strip];exact .jT f cs ds hl h
 |iX=>simp only[PD.strip];exact .iX
 |fT v h=>simp only[PD.strip];exact .fT v h
 |yield id l hd hn hr=>simp only[PD.strip];exact .yield id l hd hn hr
 |aI cs ds hl _ ih=>
  simp only[PD.strip,PD.qY];refine .aI cs _ Cq (λi v d hv hd=>?_);exact js
theorem VR.free{c c':Cx}(hcell:∀a v,c.av a->c.w.cell? a=some v->c'.av a/\c'.w.cell? a=some v){v:Value}{p:PD}(hv:VR c v p):p.bQ=true->VR c' v p:=by
 have at_:∀ {ds:Gc} {i:Nat} {d:PD},PD.fH ds=true->ds[i]?=some d->d.bQ=true:=by
  intro ds i d h hd;rw[PD.r9]at h;exact yAn.1 h d (yAE hd)
 induction hv with
 |bool b=>intro _;exact .bool b
 |int k n=>intro _;exact .int k n
 |str s=>intro _;exact .str s
 |agg cs ds hl h1 _ ih=>
  intro hp;simp only[PD.bQ]at hp;exact vm
 |slice A n cap size xs tok eJ hn hc hm hx hf h1 hcl _ ht ih=>
  intro hp;simp only[PD.bQ,yAr]at hp;refine .slice A n cap size xs tok eJ hn hc hm hx hf h1 (λj v hj=>?_) (λj v d hv hd=>ih j v d hv hd ?_) ?_
  .obtain⟨ad,e,h2,h3⟩:=hcl j v hj;obtain⟨q1,q2⟩:=hcell _ _ h3 h2;exact⟨ad,e,q2,q1⟩
  .obtain⟨x,hxm,hdm⟩:=yDd.1 (yAE hd);have hxf:x.bQ=true:=by
    have:=hp.1;rw[PD.r9]at this;exact yAn.1 this x hxm
   cases x with
   |agg cs=>
    exact rz
   |typed t cs=>
    exact rz
   |_=>simp only[PD.cells,yCM]at hdm;rw[hdm];exact hxf
  .cases tok with
   |any=>trivial
   |full=>exact ht
   |nil=>exact ht
   |jF=>exact ht
   |jR=>exact ht
   |own id=>simp at hp
 |ptr id off b hd hs hr=>intro hp;simp[PD.bQ]at hp
 |dJ id off n cap size b hd hs hr h1 h2=>intro hp;simp[PD.bQ]at hp
 |aR id ver off n cap size b hp h1 h2=>intro hp;simp[PD.bQ]at hp
 |dH id ver off b hp=>intro hp;simp[PD.bQ]at hp
 |fK id b hd hn hr=>intro hp;simp[PD.bQ]at hp
 |iface t v p _ ih=>intro hp;simp only[PD.bQ]at hp;exact .iface t v p (ih hp)
 |eO ad eJ ds off hl h1 hcl _ ih=>
  intro hp;simp only[PD.bQ]at hp;refine .eO ad eJ ds off hl h1 (λj v hj=>?_) (λj v d hv hd=>ih j v d hv hd (at_ hp hd));obtain⟨h2,h3⟩:=hcl j v hj;obtain⟨q1,q2⟩:=hcell _ _ h3 h2;exact⟨q2,q1⟩
 |gR=>intro _;exact .gR
 |func f cs ds hl _ ih=>
  intro hp;simp only[PD.bQ]at hp;exact .func f cs ds hl (λi v d hv hd=>ih i v d hv hd (at_ hp hd))
 |jT f cs ds hl _ ih=>
  intro hp;simp only[PD.bQ]at hp;exact .jT f cs ds hl (λi v d hv hd=>ih i v d hv hd (at_ hp hd))
 |iX=>intro _;exact .iX
 |fT v h=>intro _;exact .fT v h
 |yield id l hd hn hr=>intro hp;simp[PD.bQ]at hp
 |aI cs ds hl _ ih=>
  intro hp;simp only[PD.bQ]at hp;exact vr
theorem aV.strip{c:Cx}{cs:Ge}{ds:Gc}(hv:aV c cs ds):aV c cs (ds.map PD.strip):=
 ⟨by simpa using hv.1,λi v d h1 h2=>by
  rw[yAo]at h2;cases hx:ds[i]? with
  |none=>rw[hx]at h2;simp at h2
  |some x=>
   rw[hx]at h2;simp only[yAC,yAb]at h2;subst h2;exact(hv.2 i v x h1 hx).strip⟩
theorem aV.free{c c':Cx}(hcell:∀a v,c.av a->c.w.cell? a=some v->c'.av a/\c'.w.cell? a=some v){cs:Ge}{ds:Gc}(hv:aV c cs ds)(h:PD.fH ds=true):aV c' cs ds:=
 ⟨hv.1,λi v d h1 h2=>(hv.2 i v d h1 h2).free hcell (by
  rw[PD.r9]at h;exact yAn.1 h d (yAE h2))⟩
end
def PD.plain:PD->Bool
 |.agg _|.aI _|.typed _ _=>false
 |_=>true
def uN:Value->Option PD
 |.bool b=>some (.bool b)
 |.int k n=>some (.int k n)
 |.string s=>some (.str s.data.toList)
 |.slice none 0 0=>some (.slice 0 [] .full)
 |.pointer none=>some .gR
 |.nilFunc=>some .iX
 |.nilIface=>some (.fT .nilIface)
 |.map none=>some (.fT (.map none))
 |_=>none
def uO:List Value->Option (List PD)
 | []=>some []
 |v::vs=>match uN v,uO vs with
  |some p,some ps=>some (p::ps)
  |_,_=>none
def ofValue:Value->Option PD
 |.agg cs=>match uO cs.toList with|some ps=>some (.agg ps)|none=>none
 |.tuple vs=>if vs.size=0 then some (.aI [])else none
 |v=>uN v
def eR(P:Program)(t:TypeId):Option PD:=
 match P.info? t with
 |some i=>match i.zero with|some z=>ofValue z|none=>none
 |none=>none
def cH(P:Program)(t:TypeId):Option Nat:=match P.info? t with|some i=>some i.size|none=>none
def fQ(P:Program)(t:TypeId):Option Bool:=
 match P.underlying t with
 |some (.struct _)|some (.array _ _)=>some true
 |some _=>some false
 |none=>none
def aZ(fr:List PD):Operand->Option PD
 |.tmp t=>some (fr.getD t (.aI []))
 |.const v=>ofValue v
 |.func f=>some (.func f [])
 |.global g=>match y8 g with
   |some ds=>some (.eO ds 0)
   |none=>none
def kL(fr:List PD):List Operand->Option (List PD)
 | []=>some []
 |x::xs=>match aZ fr x,kL fr xs with
  |some p,some ps=>some (p::ps)
  |_,_=>none
def nP(P:Program)(t:TypeId)(cs:List PD)(off:Nat):Option PD:=
 match fQ P t,cH P t with
 |some true,some n=>if off+n<=cs.length then some (.agg ((cs.drop off).take n))else none
 |some false,some _=>cs[off]?
 |_,_=>none
def BK(op:BinOp)(k:IntKind)(x y:Int):Option Int:=
 match op with
 |.and=>some (k.wrap ((BitVec.ofInt k.bits x) &&& (BitVec.ofInt k.bits y)).toNat)
 |.or=>some (k.wrap ((BitVec.ofInt k.bits x) ||| (BitVec.ofInt k.bits y)).toNat)
 |.xor=>some (k.wrap ((BitVec.ofInt k.bits x) ^^^ (BitVec.ofInt k.bits y)).toNat)
 |.andNot=>some (k.wrap ((BitVec.ofInt k.bits x) &&& ~~~(BitVec.ofInt k.bits y)).toNat)
 |_=>none
def iE(op:BinOp)(k:IntKind)(x y:Int):Option PD:=
 match op with
 |.add=>some (.int k (k.wrap (x+y)))
 |.sub=>some (.int k (k.wrap (x-y)))
 |.mul=>some (.int k (k.wrap (x*y)))
 |.quo=>if y=0 then none else some (.int k (k.wrap (x.tdiv y)))
 |.rem=>if y=0 then none else some (.int k (x.tmod y))
 |.eql=>some (.bool (x==y))
 |.neq=>some (.bool (x != y))
 |.lss=>some (.bool (decide (x<y)))
 |.leq=>some (.bool (decide (x<=y)))
 |.gtr=>some (.bool (decide (x > y)))
 |.geq=>some (.bool (decide (x >= y)))
 |.and|.or|.xor|.andNot=>match BK op k x y with|some z=>some (.int k z)|none=>none
 |_=>none
def JA(op:BinOp)(k:IntKind)(x y:Int):Option PD:=
 if y<0 then none else
 match op with
 |.shl=>some (.int k (k.wrap (x*2^(min y.toNat k.bits))))
 |.shr=>some (.int k (x.fdiv (2^(min y.toNat k.bits))))
 |_=>none
def I9(op:BinOp)(x y:List UInt8):Option PD:=
 match op with
 |.add=>if x.length+y.length<=maxLen then some (.str (x++y))else none
 |.eql=>some (.bool (x==y))
 |.neq=>some (.bool (!(x==y)))
 |.lss=>some (.bool (Op.bytesLess x y))
 |.leq=>some (.bool (Op.bytesLess x y||x==y))
 |.gtr=>some (.bool (!(Op.bytesLess x y||x==y)))
 |.geq=>some (.bool (!(Op.bytesLess x y)))
 |_=>none
def zI(eq:TypeId->PD->PD->Option Bool)(P:Program)(xs ys:List PD):List Field->Option Bool
 | []=>some true
 |f::fs=>
  if f.name= "_" then zI eq P xs ys fs
  else match nP P f.type xs f.offset,nP P f.type ys f.offset with
   |some a,some b=>match eq f.type a b with
    |some true=>zI eq P xs ys fs
    |some false=>some false
    |none=>none
   |_,_=>none
def BE(eq:PD->PD->Option Bool)(P:Program)(e:TypeId)(n:Nat)(xs ys:List PD):Nat->Nat->Option Bool
 |_,0=>some true
 |i,m+1=>match nP P e xs (i*n),nP P e ys (i*n)with
  |some a,some b=>match eq a b with
   |some true=>BE eq P e n xs ys (i+1) m
   |some false=>some false
   |none=>none
  |_,_=>none
def lB(P:Program):Nat->TypeId->PD->PD->Option Bool
 |0,_,_,_=>none
 |d+1,t,x,y=>
  match P.underlying t with
  |some .bool=>match x,y with|.bool a,.bool b=>some (a==b)|_,_=>none
  |some (.int _)=>match x,y with|.int k a,.int k' b=>if k=k' then some (a==b)else none|_,_=>none
  |some .string=>match x,y with|.str a,.str b=>some (a==b)|_,_=>none
  |some (.pointer _)=>match x,y with
   |.gR,.gR=>some true
   |.gR,.ptr _ _=>some false
   |.gR,.eO _ _=>some false
   |.ptr _ _,.gR=>some false
   |.eO _ _,.gR=>some false
   |_,_=>none
  |some (.func ..)=>match x,y with
   |.iX,.iX=>some true
   |.iX,.func _ _=>some false
   |.func _ _,.iX=>some false
   |_,_=>none
  |some (.struct fs)=>match x,y with
   |.agg xs,.agg ys=>if P.stoodInHeld t then none else zI (lB P d) P xs ys fs.toList
   |_,_=>none
  |some (.array len e)=>match x,y with
   |.agg xs,.agg ys=>match cH P e with
     |some n=>BE (lB P d e) P e n xs ys 0 len
     |none=>none
   |_,_=>none
  |_=>none
def pB(P:Program)(t:TypeId)(x y:PD):Option Bool:=
 match x,y with
 |.agg _,.agg _=>if P.eqGuardType P.depth t then none else lB P 12 t x y
 |_,_=>lB P 12 t x y
def dW(P:Program)(op:BinOp)(t:TypeId)(x y:PD):Option PD:=
 match x,y with
 |.int k a,.int k' b=>
   match op with
   |.shl|.shr=>JA op k a b
   |_=>if k=k' then iE op k a b else none
 |.str a,.str b=>I9 op a b
 |_,_=>
  match op with
  |.eql=>match pB P t x y with|some b=>some (.bool b)|none=>none
  |.neq=>match pB P t x y with|some b=>some (.bool (!b))|none=>none
  |_=>none
def F5(op:UnOp)(x:PD):Option PD:=
 match op,x with
 |.neg,.int k n=>some (.int k (k.wrap (0-n)))
 |.xor,.int k n=>match BK .xor k (if k.signed then -1 else k.max) n with|some z=>some (.int k z)|none=>none
 |.not,.bool b=>some (.bool (!b))
 |_,_=>none
def I7(P:Program)(src dst:TypeId)(x:PD):Option PD:=
 match P.underlying src,P.underlying dst,x with
 |some (.int _),some (.int k),.int _ n=>some (.int k (k.wrap n))
 |some .string,some .string,.str s=>some (.str s)
 |_,_,_=>none
def gU:Option PD->Option Nat
 |some (.int _ i)=>if 0<=i then some i.toNat else none
 |_=>none
def mP(n:Nat)(lo hi:Option (Option PD)):Option (Nat×Nat):=
 match (match hi with|some h=>gU h|none=>some n),(match lo with|some l=>gU l|none=>some 0)with
 |some h,some l=>if l<=h/\h<=n then some (l,h)else none
 |_,_=>none
def s8(P:Program)(t:TypeId)(x:PD)(lo hi mx:Option (Option PD)):Option PD:=
 match P.underlying t,x with
 |some .string,.str s=>
  if mx.isSome then none else
  match mP s.length lo hi with
  |some (l,h)=>some (.str ((s.drop l).take (h-l)))
  |none=>none
 |some (.slice e),.slice size xs tok=>
  match cH P e,mP xs.length lo hi with
  |some n,some (l,h)=>
   if xs.length=0\/n=size then
    match mx with
    |none=>some (.slice size ((xs.drop l).take (h-l))
      (if h=xs.length then(match tok with|.full=>.full|.own id=>if l=0 then .own id else .any|_=>.any)else .any))
    |some m=>match hi,gU m with
     |some _,some m=>if h<=m/\m<=xs.length then some (.slice size ((xs.drop l).take (h-l)) (if m=h then .full else .any))else none
     |_,_=>none
   else none
  |_,_=>none
 |some (.slice e),.dJ id off m size=>
  match cH P e,mP m lo hi,mx with
  |some n,some (l,h),none=>if n=size/\(l=0\/l<m)then some (.dJ id (off+l*n) (h-l) n)else none
  |_,_,_=>none
 |some (.slice e),.aR id ver off m size=>
  match cH P e,mP m lo hi with
  |some n,some (l,h)=>
   if n=size then
    match mx with
    |none=>if l=0\/l<m then some (.aR id ver (off+l*n) (h-l) n)else some (.slice n [] .any)
    |some mv=>match hi,gU mv with
     |some _,some k=>if k=h/\l=h then some (.slice n [] .full)else none
     |_,_=>none
   else none
  |_,_=>none
 |some (.array len e),.ptr id off=>
  match cH P e,mP len lo hi,mx with
  |some n,some (l,h),none=>if len<=1000000/\(l=0\/l<len)then some (.dJ id (off+l*n) (h-l) n)else none
  |_,_,_=>none
 |_,_=>none
def BF(P:Program)(s:TypeId)(x:PD)(f:Nat):Option PD:=
 match P.underlying s with
 |some (.struct fs)=>match fs[f]? with
  |some fd=>match cH P fd.type with
   |some n=>if n=0 then none else match x with
    |.ptr id off=>some (.ptr id (off+fd.offset))
    |.eO cs off=>some (.eO cs (off+fd.offset))
    |.dH id ver off=>some (.dH id ver (off+fd.offset))
    |_=>none
   |none=>none
  |none=>none
 |_=>none
def F6(P:Program)(t:TypeId)(x:PD)(f:Nat):Option PD:=
 match P.underlying t,x with
 |some (.struct fs),.agg cs=>match fs[f]? with
  |some fd=>nP P fd.type cs fd.offset
  |none=>none
 |_,_=>none
def jZ(P:Program)(t:TypeId)(x:PD)(i:PD):Option PD:=
 match gU (some i),P.underlying t with
 |some i,some (.array len e)=>match cH P e with
  |some n=>if i<len then(match x with
    |.ptr id off=>some (.ptr id (off+i*n))
    |.eO cs off=>some (.eO cs (off+i*n))
    |.dH id ver off=>some (.dH id ver (off+i*n))
    |_=>none)else none
  |none=>none
 |some i,some (.slice e)=>match x,cH P e with
  |.slice size xs _,some n=>if (xs.length=0\/n=size)/\0<n then(match xs[i]? with
    |some p=>some (.eO p.cells 0)
    |none=>none)else none
  |.dJ id off m size,some n=>if n=size/\i<m then some (.ptr id (off+i*n))else none
  |.aR id ver off m size,some n=>if n=size/\i<m then some (.dH id ver (off+i*n))else none
  |_,_=>none
 |_,_=>none
def zL(P:Program)(t:TypeId)(x:PD)(i:PD):Option PD:=
 match gU (some i),P.underlying t,x with
 |some i,some (.array len e),.agg cs=>match cH P e with
  |some n=>if i<len then nP P e cs (i*n)else none
  |none=>none
 |some i,some .string,.str s=>match s[i]? with|some b=>some (.int .u8 b.toNat)|none=>none
 |_,_,_=>none
def GD(P:Program):List Field->Option (List (Nat×Nat))
 | []=>some []
 |f::fs=>match cH P f.type,GD P fs with
  |some n,some ps=>some ((f.offset,n)::ps)
  |_,_=>none
def dG(cs:List PD)(off:Nat)(new:List PD):List PD:=cs.take off++new++cs.drop (off+new.length)
def xQ(place:Nat->Option (Nat×Nat))(cs:List PD):List (Nat×PD)->Option (List PD)
 | []=>some cs
 |(i,p)::rest=>match place i with
  |none=>none
  |some (off,n)=>if p.cells.length≠n\/off+p.cells.length > cs.length\/p.cells.all PD.plain=false then none else xQ place (dG cs off p.cells) rest
def p7(fr:List PD):List (Nat×Operand)->Option (List (Nat×PD))
 | []=>some []
 |(i,x)::r=>match aZ fr x,p7 fr r with
  |some p,some ps=>some ((i,p)::ps)
  |_,_=>none
def F7(P:Program)(t:TypeId)(parts:List (Nat×PD)):Option PD:=
 match eR P t with
 |some (.agg z)=>match P.underlying t with
  |some (.struct fs)=>match GD P fs.toList with
   |some pl=>match xQ (pl[·]?) z parts with|some cs=>some (.agg cs)|none=>none
   |none=>none
  |some (.array _ e)=>match cH P e with
   |some n=>match xQ (λi=>some (i*n,n)) z parts with|some cs=>some (.agg cs)|none=>none
   |none=>none
  |_=>none
 |_=>none
def DS(lt:Bool):PD->List PD->Option PD
 |.int k x,[]=>some (.int k x)
 |.int k x,.int _ y::r=>DS lt (.int k (if lt then(if y<x then y else x)else(if y > x then y else x))) r
 |_,_=>none
def j5(P:Program)(b:Builtin)(argTypes:Array TypeId)(args:List PD):Option PD:=
 match b with
 |.len=>match argTypes[0]? with
   |some t=>match P.underlying t,args with
    |some .string,.str s::_=>some (.int .i64 s.length)
    |some (.array n _),_::_=>some (.int .i64 n)
    |some (.slice _),.slice _ xs _::_=>some (.int .i64 xs.length)
    |some (.slice _),.dJ _ _ n _::_=>some (.int .i64 n)
    |some (.slice _),.aR _ _ _ n _::_=>some (.int .i64 n)
    |_,_=>none
   |none=>none
 |.min=>match args with|x::r=>DS true x r | []=>none
 |.max=>match args with|x::r=>DS false x r | []=>none
 |.cap=>match argTypes[0]? with
   |some t=>match P.underlying t,args with
    |some (.slice _),.slice _ xs .full::_=>some (.int .i64 xs.length)
    |_,_=>none
   |none=>none
 |_=>none
def gQ:PD->Option Bool
 |.slice n xs tok=>if xs.length≠0/\n≠0 then some false else(match tok with
   |.nil=>some true
   |.jF=>some true
   |.jR=>some false
   |_=>none)
 |.dJ _ _ _ _=>some false
 |.aR _ _ _ _ _=>some false
 |_=>none
def BI(P:Program)(op:BinOp)(t:TypeId)(a:PD)(y:Operand):Option PD:=
 match y with
 |.const (.slice none 0 0)=>(match P.underlying t with
   |some (.slice _)=>(match op,gQ a with
    |.eql,some b=>some (.bool b)
    |.neq,some b=>some (.bool (!b))
    |_,_=>none)
   |_=>none)
 |_=>none
def eK(P:Program)(fr:List PD):Op->Option PD
 |.move x|.assign x=>aZ fr x
 |.pick c a b=>match aZ fr c with
   |some (.bool true)=>aZ fr a
   |some (.bool false)=>aZ fr b
   |_=>none
 |.binOp op t x y _=>match aZ fr x,aZ fr y with
   |some a,some b=>(match dW P op t a b with|some r=>some r|none=>BI P op t a y)
   |_,_=>none
 |.unOp op _ x=>match aZ fr x with|some a=>F5 op a|none=>none
 |.convert s d x=>if DO s d=true then none else match aZ fr x with|some a=>I7 P s d a|none=>none
 |.makeFunc (.func f) first captured=>if first.size=0 then(match kL fr captured.toList with|some ps=>some (.func f ps)|none=>none)
   else if captured.size=0 then(match kL fr first.toList with|some ps=>some (.jT f ps)|none=>none)else none
 |.slice t x lo hi mx=>match aZ fr x with
   |some a=>s8 P t a (lo.map (aZ fr)) (hi.map (aZ fr)) (mx.map (aZ fr))
   |none=>none
 |.fieldAddr s x f=>match aZ fr x with|some a=>BF P s a f|none=>none
 |.field t x f=>match aZ fr x with|some a=>F6 P t a f|none=>none
 |.indexAddr t x i=>match aZ fr x,aZ fr i with
   |some a,some b=>jZ P t a b
   |_,_=>none
 |.index t x i=>match aZ fr x,aZ fr i with
   |some a,some b=>zL P t a b
   |_,_=>none
 |.extract x i=>match aZ fr x with
   |some (.aI vs)=>vs[i]?
   |_=>none
 |.nilCheck x=>match aZ fr x with
   |some (.ptr id off)=>some (.ptr id off)
   |some (.eO cs off)=>some (.eO cs off)
   |some (.dH id ver off)=>some (.dH id ver off)
   |_=>none
 |.build t parts=>match p7 fr parts.toList with|some ps=>F7 P t ps|none=>none
 |.call { callee:=.builtin b,args:=args,argTypes:=ts }=>match kL fr args.toList with
   |some ps=>j5 P b ts ps
   |none=>none
 |_=>none
def p6(P:Program)(σ:List aB)(t:TypeId):PD->Option PD
 |.ptr id off=>match σ[id]? with
   |some (.box p)=>nP P t p.cells off
   |_=>none
 |.eO cs off=>nP P t cs off
 |.dH id ver off=>match σ[id]? with
   |some (.row _ _ fO cs)=>if ver=fO then nP P t cs off else none
   |_=>none
 |_=>none
def vX:PD->PD
 |.slice 0 [] .full=>.slice 0 [] .nil
 |p=>p
def boxed(t:TypeId):PD->PD
 |.agg cs=>if M9 t=true then .typed t (cs.map vX)else .agg cs
 |p=>p
def PD.setCells(p:PD)(off:Nat)(new:List PD):Option PD:=
 match p with
 |.agg cs=>if off+new.length<=cs.length then some (.agg (dG cs off new))else none
 |.typed t cs=>if off+new.length<=cs.length then some (.typed t (dG cs off new))else none
 |_=>if off=0 then(match new with | [q]=>some q|_=>none)else none
def s9(P:Program)(fl:Nat)(σ:List aB)(t:TypeId)(a p:PD):Option (List aB):=
 match a with
 |.ptr id off=>if fl<=id then(match σ[id]?,cH P t with
   |some (.box q),some n=>if p.cells.length=n/\p.cells.all PD.plain=true then(match q.setCells off p.cells with
     |some q'=>some (σ.set id (.box q'))
     |none=>none)else none
   |_,_=>none)else none
 |.dH id ver off=>if fl<=id then(match σ[id]?,cH P t with
   |some (.row e sz fO cs),some n=>if ver=fO/\p.cells.length=n/\p.cells.all PD.plain=true/\off+n<=cs.length then some (σ.set id (.row e sz ver (dG cs off p.cells)))else none
   |_,_=>none)else none
 |_=>none
def GC(i:Nat):List (Nat×PD)->Option (List PD)
 | []=>some []
 |(j,p)::r=>if j=i then(match GC (i+1) r with|some ps=>some (p::ps)|none=>none)else none
def uL(P:Program)(t:TypeId)(len:Nat)(parts:List (Nat×PD)):Option PD:=
 match P.underlying t with
 |some (.slice e)=>match cH P e,eR P e,GC 0 parts with
  |some n,some z,some ps=>
   if ps.length=len/\0<n/\len*n<=16777216/\ps.all (λp=>p.cells.length=n&&p.cells.all PD.plain)=true/\z.cells.length=n/\z.cells.all PD.plain=true then some (.slice n ps .full)else none
  |_,_,_=>none
 |_=>none
def NA(P:Program)(t:TypeId):Bool:=
 match P.underlying t with
 |some (.slice e)=>match P.info? e with
  |some i=>match i.zero with
   |some (.int .u8 0)=>i.size==1&&i.bytes==1
   |_=>false
  |none=>false
 |_=>false
def gH(P:Program)(fl:Nat)(σ:List aB)(t:TypeId)(s x:PD):Option (PD×List aB):=
 match P.underlying t with
 |some (.slice e)=>match P.info? e with
  |some i=>match i.zero,s,x with
   |some z,.slice sz xs tok,.slice sz' ys _=>
    if (xs.length=0\/sz=i.size)/\(ys.length=0\/sz'=i.size)/\0<i.size/\z.cells.size=i.size/\xs.length+ys.length<=maxLen /\
        (xs.length+ys.length)*i.bytes<=140737488355328 then
     if ys.length=0 then some (s,σ)else
     match tok with
     |.full=>some (.slice i.size (xs++ys) (.own σ.length),σ++[.own e i.size (xs.length+ys.length)])
     |.nil=>some (.slice i.size (xs++ys) (.own σ.length),σ++[.own e i.size (xs.length+ys.length)])
     |.own id=>if fl<=id/\sz=i.size then(match σ[id]? with
       |some (.own e' lL n)=>if e'=e/\lL=i.size/\n=xs.length then
         some (.slice i.size (xs++ys) (.own id),σ.set id (.own e i.size (xs.length+ys.length)))else none
       |_=>none)else none
     |_=>none
    else none
   |_,_,_=>none
  |none=>none
 |_=>none
def uU(z:PD)(n l:Nat):List PD:=(List.range (l*n)).map λk=>z.cells.getD (k%n) (.aI [])
def sJ(n:Nat):Nat->List PD->Gc
 |0,_=>[]
 |k+1,cs=>.agg (cs.take n)::sJ n k (cs.drop n)
def vY(σ:List aB):PD->Option (Nat×List PD)
 |.slice sz ys _=>some (sz,ys)
 |.aR id ver off n sz=>match σ[id]? with
   |some (.row _ sz' fO cs)=>if ver=fO/\sz'=sz/\off+n*sz<=cs.length then some (sz,sJ sz n (cs.drop off))else none
   |_=>none
 |.dJ id off n sz=>match σ[id]? with
   |some (.box q)=>if off+n*sz<=q.cells.length then some (sz,sJ sz n (q.cells.drop off))else none
   |_=>none
 |_=>none
def Tok.fresh:Tok->Bool
 |.full=>true
 |_=>false
def fR(P:Program)(n:Nat)(fl:Nat)(σ:List aB)(t:TypeId)(s x:PD):Option (PD×List aB):=
 if lE t n=true then
  match P.underlying t,vY σ x with
  |some (.slice e),some (sz',ys)=>match P.info? e with
   |some i=>match i.zero with
    |some z=>
     if (ys.length=0\/sz'=i.size)/\0<i.size/\z.cells.size=i.size/\z.cells.toList.all Value.oneCell'=true then
      match s with
      |.slice sz xs tok=>
        if (xs.length=0\/sz=i.size)/\xs.length+ys.length<=maxLen/\(xs.length+ys.length)*i.bytes<=140737488355328/\tok.fresh=true then
         if ys.length=0 then some (s,σ)
         else some (.aR σ.length 0 0 (xs.length+ys.length) i.size,σ++[.row e i.size 0 ((xs++ys).flatMap PD.cells)])
        else none
      |.aR id ver off n sz=>
        if fl<=id/\sz=i.size/\n+ys.length<=maxLen/\(n+ys.length)*i.bytes<=140737488355328 then
         match σ[id]? with
         |some (.row e' lL fO cs)=>
          if e'=e/\lL=i.size/\fO=ver then
           if off+(n+ys.length)*i.size<=cs.length then some (.aR id ver off (n+ys.length) i.size,σ.set id (.row e i.size ver (dG cs (off+n*i.size) (ys.flatMap PD.cells))))
           else if off=0/\n*i.size=cs.length then some (.aR id (ver+1) 0 (n+ys.length) i.size,σ.set id (.row e i.size (ver+1) (cs++ys.flatMap PD.cells)))
           else none
          else none
         |_=>none
        else none
      |_=>none
     else none
    |none=>none
   |none=>none
  |_,_=>none
 else none
def NB(P:Program)(n:Nat)(σ:List aB)(t:TypeId)(s:PD)(m:Int):Option (PD×List aB):=none
def S5(P:Program)(fl:Nat)(σ:List aB)(t:TypeId)(s:PD):Option (List aB):=none
def S6(P:Program)(fl:Nat)(σ:List aB)(dt st:TypeId)(d x:PD):Option (PD×List aB):=none
def GQ(P:Program)(kt:TypeId)(k:PD):Bool:=
 match P.underlying kt,k with
 |some .string,.str _=>true
 |some (.int k0),.int k1 _=>k0==k1
 |_,_=>false
def D6:PD->PD->Option Bool
 |.str a,.str b=>some (a==b)
 |.int k a,.int k' b=>if k=k' then some (a==b)else none
 |_,_=>none
def vZ(k:PD):List (PD×PD)->Nat->Option (Option (Nat×PD))
 | [],_=>some none
 |e::es,i=>match D6 k e.1 with
  |some true=>some (some (i,e.2))
  |some false=>vZ k es (i+1)
  |none=>none
def GR(P:Program)(σ:List aB)(t:TypeId)(x k:PD)(ok:Bool):Option PD:=
 match P.underlying t with
 |some (.map kt e)=>if GQ P kt k=true then(match x with
   |.fK id=>(match σ[id]? with
     |some (.map es)=>(match vZ k es 0 with
      |some (some (_,v))=>some (if ok then .aI [v,.bool true]else v)
      |some none=>(match eR P e with
       |some z=>some (if ok then .aI [z,.bool false]else z)
       |none=>none)
      |none=>none)
     |_=>none)
   |.fT (.map none)=>(match eR P e with
     |some z=>some (if ok then .aI [z,.bool false]else z)
     |none=>none)
   |_=>none)else none
 |_=>none
def GS(P:Program)(fl:Nat)(σ:List aB)(t:TypeId)(x k v:PD):Option (List aB):=
 match P.underlying t with
 |some (.map kt _)=>if GQ P kt k=true then(match x with
   |.fK id=>if fl<=id then(match σ[id]? with
     |some (.map es)=>(match vZ k es 0 with
      |some (some (i,_))=>some (σ.set id (.map (es.set i (k,v))))
      |some none=>some (σ.set id (.map (es++[(k,v)])))
      |none=>none)
     |_=>none)else none
   |_=>none)else none
 |_=>none
def DT:List PD->Option (List UInt8)
 | []=>some []
 |.int .u8 n::r=>match DT r with|some l=>some (UInt8.ofNat n.toNat::l)|none=>none
 |_=>none
def I6(P:Program)(s d:TypeId)(x:PD):Option PD:=
 match P.underlying s,P.underlying d,x with
 |some .string,some (.slice e),.str l=>match P.underlying e with
  |some (.int .u8)=>if l.length<=maxLen then some (.slice 1 (l.map λb=>.int .u8 b.toNat) .any)else none
  |_=>none
 |some (.slice e),some .string,.slice sz xs _=>match P.underlying e with
  |some (.int .u8)=>if xs.length=0\/sz=1 then(match DT xs with|some l=>some (.str l)|none=>none)else none
  |_=>none
 |_,_,_=>none
def zO(σ:List aB):PD->Option (List PD)
 |.dJ id off n size=>if size=1 then(match σ[id]? with
   |some (.box p)=>if off+n<=p.cells.length then some ((p.cells.drop off).take n)else none
   |_=>none)else none
 |_=>none
def BP(P:Program)(σ:List aB)(s d:TypeId)(x:PD):Option PD:=
 match zO σ x,P.underlying s,P.underlying d with
 |some xs,some (.slice e),some .string=>(match P.underlying e,DT xs with
  |some (.int .u8),some l=>some (.str l)
  |_,_=>none)
 |_,_,_=>none
def vU(P:Program)(σ:List aB)(t e:TypeId)(l k:Nat):Option (PD×List aB):=
 match P.info? e,cH P e,eR P e with
 |some i,some n,some z=>
  if l<=k/\0<n/\z.cells.length=n/\z.cells.all PD.plain=true/\k<=maxLen/\k*i.bytes<=140737488355328 then
   if l=0/\k≠0 then some (.slice n [] (.own σ.length),σ++[.own e n 0])
   else if l=k then
    if SU t=true then some (.dJ σ.length 0 l n,σ++[.box (.agg (uU z n l))])else some (.slice n (List.replicate l z) .full,σ)
   else none
  else none
 |_,_,_=>none
def dE(P:Program)(fl:Nat)(fr:List PD)(σ:List aB):Op->Option (PD×List aB)
 |.load t x=>match aZ fr x with
   |some a=>(match p6 P σ t a with|some p=>some (p,σ)|none=>none)
   |none=>none
 |.store t x y=>match aZ fr x,aZ fr y with
   |some a,some p=>(match s9 P fl σ t a p with|some σ'=>some (.aI [],σ')|none=>none)
   |_,_=>none
 |.alloc t=>match eR P t with
   |some p=>if p.cells.all PD.plain then some (.ptr σ.length 0,σ++[.box (boxed t p)])else none
   |none=>none
 |.box _ x=>match aZ fr x with
   |some p=>if p.cells.all PD.plain then some (.ptr σ.length 0,σ++[.box p])else none
   |none=>none
 |.buildSlice t len parts=>match p7 fr parts.toList with
   |some ps=>(match uL P t len (ps.map λq=>(q.1,q.2.strip))with|some p=>some (p,σ)|none=>none)
   |none=>none
 |.convert s d x=>if DO s d=true then(match aZ fr x with
   |some a=>(match I6 P s d a with|some p=>some (p,σ)|none=>(match BP P σ s d a with|some p=>some (p,σ)|none=>none))
   |none=>none)else none
 |.makeSlice t l k=>match P.underlying t,gU (aZ fr l),gU (aZ fr k)with
   |some (.slice e),some l,some k=>vU P σ t e l k
   |_,_,_=>none
 |.call { callee:=.builtin .clear,args:=args,argTypes:=ts }=>match kL fr args.toList,ts.toList with
   |some [s],[t]=>(match S5 P fl σ t s with|some σ'=>some (.aI [],σ')|none=>none)
   |_,_=>none
 |.call { callee:=.builtin .copy,args:=args,argTypes:=ts }=>match kL fr args.toList,ts.toList with
   |some [d,x],[t,t']=>S6 P fl σ t t' d x
   |_,_=>none
 |.makeMap t none=>match P.underlying t with
   |some (.map _ _)=>some (.fK σ.length,σ++[.map []])
   |_=>none
 |.lookup t x k ok=>match aZ fr x,aZ fr k with
   |some m,some k=>(match GR P σ t m k ok with|some p=>some (p,σ)|none=>none)
   |_,_=>none
 |.mapUpdate t x k v=>match aZ fr x,aZ fr k,aZ fr v with
   |some m,some k,some v=>(match GS P fl σ t m k v with|some σ'=>some (.aI [],σ')|none=>none)
   |_,_,_=>none
 |.call { callee:=.builtin .append,args:=args,argTypes:=ts }=>match kL fr args.toList,ts.toList with
   |some [s,x],[t,t']=>if t=t' then(match fR P fr.length fl σ t s x with|some r=>some r|none=>gH P fl σ t s x.strip)else(match P.underlying t',x with
    |some .string,.str l=>if NA P t=true then(gH P fl σ t s (.slice (if l.length=0 then 0 else 1) (l.map λb=>.int .u8 b.toNat) .any))else none
    |some (.int .i64),.int .i64 m=>NB P fr.length σ t s m
    |_,_=>none)
   |_,_=>none
 |_=>none
def pop(P:Program)(fl:Nat)(fr:List PD)(σ:List aB)(op:Op):Option (PD×List aB):=
 match eK P fr op with
 |some p=>some (p,σ)
 |none=>dE P fl fr σ op
def gP(fr:List PD):Op->Option ((FuncId ⊕ Nat)×List PD)
 |.call { callee:=.value g,args:=args,.. }=>match aZ fr g,kL fr args.toList with
   |some (.func f cap),some ps=>some (.inl f,ps++cap)
   |some (.jT f first),some ps=>some (.inl f,first++ps)
   |some (.yield id),some ps=>some (.inr id,ps)
   |_,_=>none
 |_=>none
def bE(fr:List PD)(dst:Option Tmp)(p:PD):List PD:=
 match dst with
 |some d=>fr.set d p
 |none=>fr
def bR(ops:Array Oper)(fr:List PD)(j:Nat):Option Bool:=
 match (ops[j]?).bind (·.dst)with
 |some d=>match fr[d]? with
  |some (.bool b)=>some b
  |_=>none
 |none=>none
section
theorem TH{c:Cx}{v:Value}{p:PD}(h:uN v=some p):VR c v p/\v.oneCell'=true:=by
 unfold uN at h;split at h<;>simp at h<;>subst h
 .exact⟨.bool _,rfl⟩
 .exact⟨.int _ _,rfl⟩
 .rename_i s;refine⟨?_,rfl⟩;exact uw
 .refine⟨.slice none 0 0 0 [] .full [] rfl (yAk _) (by simp[maxLen]) Ai rfl Ai Ai Ai rfl,rfl⟩
 .exact⟨.gR,rfl⟩
 .exact⟨.iX,rfl⟩
 .exact⟨.fT _ rfl,rfl⟩
 .exact⟨.fT _ rfl,rfl⟩
theorem aB2{c:Cx}:∀ {vs:Ge} {ps:Gc},uO vs=some ps->aV c vs ps/\∀v∈vs,v.oneCell'=true
 | [],ps,h=>by simp[uO]at h;subst h;exact⟨⟨rfl,Ai⟩,Ai⟩
 |v::vs,ps,h=>by
  unfold uO at h;cases h1:uN v with
  |none=>simp[h1]at h
  |some p=>
   cases h2:uO vs with
   |none=>simp[h1,h2]at h
   |some qs=>
    simp[h1,h2]at h;subst h;have⟨a1,a2⟩:=TH (c:=c) h1;have⟨⟨b1,b2⟩,b3⟩:=aB2 (c:=c) h2;refine⟨⟨by simp[b1],λi v' d hv hd=>?_⟩,by simp[a2];exact b3⟩;exact ld
theorem TI{c:Cx}{v:Value}{p:PD}(h:ofValue v=some p):VR c v p:=by
 unfold ofValue at h;split at h
 .rename_i cs;cases h1:uO cs.toList with
  |none=>simp[h1]at h
  |some ps=>
   simp[h1]at h;subst h;have⟨⟨b1,b2⟩,b3⟩:=aB2 (c:=c) h1;have:=VR.agg (c:=c) cs.toList ps b1 b3 b2;exact cr
 .rename_i vs;split at h
  .rename_i h0;simp at h;subst h;have:vs=#[]:=yEf h0;subst this;exact VR.aI [] [] rfl Ai
  .exact ak
 .exact(TH h).1
def FR(c:Cx)(a:Act)(fr:List PD):Prop:=aV c a.tmps.toList fr/\Gl c
theorem FR.mono{fl:Nat}{c c':Cx}(h:Nx fl c c'){a:Act}{fr:Gc}(hf:FR c a fr):FR c' a fr:=⟨aV.mono h hf.1,hf.2.mono h⟩
theorem JT(c:Cx):VR c undef (.aI []):=VR.aI [] [] rfl Ai
theorem FR.tmp{c:Cx}{a:Act}{fr:Gc}(hf:FR c a fr)(t:Nat):VR c (a.tmps.getD t undef) (fr.getD t (.aI [])):=by
 obtain⟨⟨hl,h⟩,_⟩:=hf;rcases yCh t fr.length with hlt|hge
 .have h1:t<a.tmps.size:=by have:=hl;simp at this;omega
  have:=h t a.tmps[t] fr[t] (by simp[h1]) Fi;simpa [h1,hlt]using this
 .have h1:a.tmps.size<=t:=by have:=hl;simp at this;omega
  simp[Array.getElem?_eq_none h1,yBB hge];exact JT c
theorem eC{c:Cx}{a:Act}{fr:Gc}(hf:FR c a fr){x:Operand}{p:PD}(h:aZ fr x=some p):VR c (a.eval x) p:=by
 cases x with
 |tmp t=>simp only[aZ,yAb]at h;subst h;exact hf.tmp t
 |const v=>exact TI h
 |global g=>
  simp only[aZ]at h;split at h
  .rename_i ds hg;simp only[yAb]at h;subst h;exact hf.2.1 g ds hg
  .exact ak
 |func f=>simp only[aZ,yAb]at h;subst h;exact VR.func f [] [] rfl Ai
theorem sH{c:Cx}{a:Act}{fr:Gc}(hf:FR c a fr):∀ {xs:List Operand} {ps:Gc},kL fr xs=some ps->aV c (xs.map a.eval) ps
 | [],ps,h=>by simp[kL]at h;subst h;exact⟨rfl,Ai⟩
 |x::xs,ps,h=>by
  unfold kL at h;cases h1:aZ fr x with
  |none=>simp[h1]at h
  |some p=>
   cases h2:kL fr xs with
   |none=>simp[h1,h2]at h
   |some qs=>
    simp[h1,h2]at h;subst h;have a1:=eC hf h1;have⟨b1,b2⟩:=sH hf h2;refine⟨by simpa using b1,λi v d hv hd=>?_⟩;cases i with
    |zero=>simp at hv hd;subst hv;subst hd;exact a1
    |succ i=>exact b2 i v d (by simpa using hv) Fb
section inv
variable{c:Cx}{v:Value}
theorem VR.zM{b:Bool}(h:VR c v (.bool b)):v=.bool b:=Co
theorem VR.pL{k:IntKind}{n:Int}(h:VR c v (.int k n)):v=.int k n:=Co
theorem VR.sI{s:Gd}(h:VR c v (.str s)):v=.string ⟨s.toArray⟩:=Co
theorem VR.zT{ds:Gc}(h:VR c v (.agg ds)):∃cs:List Value,v=.agg cs.toArray/\aV c cs ds/\∀v∈cs,v.oneCell'=true:=by
 cases h with|agg cs _ h1 h2 h3=>exact⟨cs,rfl,⟨h1,h3⟩,h2⟩
theorem VR.aJk{ds:Gc}(h:VR c v (.aI ds)):∃cs:List Value,v=.tuple cs.toArray/\aV c cs ds:=by
 cases h with|aI cs _ h1 h2=>exact⟨cs,rfl,⟨h1,h2⟩⟩
theorem VR.JD{f:Nat}{ds:Gc}(h:VR c v (.func f ds)):∃cs:List Value,v=.func (.func f) #[] cs.toArray/\aV c cs ds:=by
 cases h with|func _ cs _ h1 h2=>exact⟨cs,rfl,⟨h1,h2⟩⟩
theorem VR.aBu{f:Nat}{ds:Gc}(h:VR c v (.jT f ds)):∃cs:List Value,v=.func (.func f) cs.toArray #[]/\aV c cs ds:=by
 cases h with|jT _ cs _ h1 h2=>exact⟨cs,rfl,⟨h1,h2⟩⟩
theorem VR.tE{id off:Nat}(h:VR c v (.ptr id off)):∃b,v=.pointer (some ⟨b,off,none⟩)/\c.D id/\(∃p,c.σ[id]?=some (.box p))/\c.ρ id=.pointer (some ⟨b,0,none⟩):=by
 cases h with|ptr _ _ b h1 h2 h3=>exact⟨b,rfl,h1,h2,h3⟩
theorem VR.D1{id off n size:Nat}(h:VR c v (.dJ id off n size)):∃b cap,v=.slice (some ⟨b,off,none⟩) n cap/\c.D id/\(∃p,c.σ[id]?=some (.box p))/\c.ρ id=.pointer (some ⟨b,0,none⟩)/\n<=cap/\cap<=maxLen:=by
 cases h with|dJ _ _ _ cap _ b h1 h2 h3 h4 h5=>exact⟨b,cap,rfl,h1,h2,h3,h4,h5⟩
theorem VR.BU{id ver off n size:Nat}(h:VR c v (.aR id ver off n size)):∃b cap,v=.slice (some ⟨b,off,none⟩) n cap/\BY c id ver (λsz r=>sz=size/\∃C,r=.slice (some ⟨b,0,none⟩) 0 C/\off+cap*size=C*size)/\n<=cap/\cap<=maxLen:=by
 cases h with|aR _ _ _ _ cap _ b h1 h2 h3=>exact⟨b,cap,rfl,h1,h2,h3⟩
theorem VR.GN{id ver off:Nat}(h:VR c v (.dH id ver off)):∃b,v=.pointer (some ⟨b,off,none⟩)/\BY c id ver (λ_ r=>∃C,r=.slice (some ⟨b,0,none⟩) 0 C):=by
 cases h with|dH _ _ _ b h1=>exact⟨b,rfl,h1⟩
theorem VR.aIM{id:Nat}(h:VR c v (.fK id)):∃b,v=.map (some b)/\c.D id/\lI c.σ[id]?/\c.ρ id=.map (some b):=by
 cases h with|fK _ b h1 h2 h3=>exact⟨b,rfl,h1,h2,h3⟩
theorem VR.D9(h:VR c v .gR):v=.pointer none:=Co
theorem VR.N3(h:VR c v .iX):v=.nilFunc:=Co
theorem VR.GU{ds:Gc}{off:Nat}(h:VR c v (.eO ds off)):∃(ad:Addr) (fl:List Value),v=.pointer (some (ad.add off))/\aV c fl ds/\(∀v∈fl,v.oneCell'=true) /\
  ∀(j:Nat) (v:Value),fl[j]?=some v->c.w.cell? (ad.add j)=some v/\c.av (ad.add j):=by
 cases h with|eO ad fl _ _ h1 h2 h3 h4=>exact⟨ad,fl,rfl,⟨h1,h4⟩,h2,h3⟩
theorem VR.oF{size:Nat}{xs:Gc}{tok:Tok}(h:VR c v (.slice size xs tok)):∃(A:Option Addr) (cap:Nat) (fl:List Value),v=.slice A xs.length cap/\xs.length<=cap/\cap<=maxLen /\
  (∀x∈xs,x.cells.length=size)/\fl.length=xs.length*size/\(∀v∈fl,v.oneCell'=true) /\
  (∀(j:Nat) (v:Value),fl[j]?=some v->∃ad,A=some ad/\c.w.cell? (ad.add j)=some v/\c.av (ad.add j)) /\
  (∀(j:Nat) (v:Value) (d:PD),fl[j]?=some v->(xs.flatMap PD.cells)[j]?=some d->VR c v d)/\rC c size xs.length cap (.slice A xs.length cap) tok:=by
 cases h with|slice A n cap _ _ _ fl h1 h2 h3 h4 h5 h6 h7 h8 h9=>subst h1;exact⟨A,cap,fl,rfl,h2,h3,h4,h5,h6,h7,h8,h9⟩
end inv
theorem VR.cells{c:Cx}{v:Value}{p:PD}(h:VR c v p):aV c v.cells.toList p.cells:=by
 cases h with
 |agg cs ds h1 h2 h3=>exact⟨by simpa [Value.cells,PD.cells]using h1,by simpa [Value.cells,PD.cells]using h3⟩
 |fT v h=>
  have e:v.cells=#[v]:=by cases v<;>first|rfl|simp[TN]at h
  rw[e];refine⟨rfl,λi v' d hv hd=>?_⟩;cases i with
  |zero=>
   simp[PD.cells]at hv hd;subst hv;subst hd;exact .fT v h
  |succ i=>simp at hv
 |_=>
  refine⟨by simp[Value.cells,PD.cells],λi v' d hv hd=>?_⟩;cases i with
  |zero=>
   simp[Value.cells,PD.cells]at hv hd;subst hv;subst hd
   constructor<;>assumption
  |succ i=>simp[Value.cells]at hv
theorem VR.plain{c:Cx}{v:Value}{p:PD}(h:VR c v p):p.plain=v.oneCell':=by
 cases h with
 |fT v h=>cases v<;>first|rfl|simp[TN]at h
 |_=>rfl
theorem aV.xT{c:Cx}{cs:Ge}{ds:Gc}(h:aV c cs ds)(hp:ds.all PD.plain=true):∀v∈cs,v.oneCell'=true:=by
 intro v hv;obtain⟨i,hi⟩:=yDQ hv;have hlt:i<ds.length:=by rw[<-h.1];exact(yA.1 hi).1
 have h1:=h.2 i v ds[i] hi Fi;rw[<-h1.plain];exact yAn.1 hp _ (yAm hlt)
theorem aV.take_drop{c:Cx}{cs:Ge}{ds:Gc}(h:aV c cs ds)(off n:Nat):aV c ((cs.drop off).take n) ((ds.drop off).take n):=by
 refine⟨by simp[h.1],λi v d hv hd=>?_⟩;rw[yAv]at hv hd;split at hv
 .rename_i hlt;rw[yAJ hlt]at hd;rw[yBn]at hv hd;exact h.2 _ v d hv hd
 .simp at hv
theorem aV.get{c:Cx}{cs:Ge}{ds:Gc}(h:aV c cs ds){i:Nat}{d:PD}(hd:ds[i]?=some d):∃v,cs[i]?=some v/\VR c v d:=by
 have hlt:i<cs.length:=by rw[h.1];exact(yA.1 hd).1
 exact⟨cs[i],Fi,h.2 i cs[i] d Fi hd⟩
theorem NW{P:Program}{t:TypeId}{n:Nat}(h:cH P t=some n):∃i,P.info? t=some i/\i.size=n:=by
 unfold cH at h;split at h<;>simp at h;exact⟨_,‹_›,h⟩
theorem nG{P:Program}{w:World}{t:TypeId}{n:Nat}(h:cH P t=some n):(sizeOf t).run P w=.ok n w:=by
 obtain⟨i,h1,h2⟩:=NW h;simp[sizeOf,typeInfo,h1,h2]
theorem NZ{P:Program}{w:World}{t:TypeId}{b:Bool}(h:fQ P t=some b):(isAgg t).run P w=.ok b w:=by
 unfold fQ at h;split at h<;>simp at h<;>subst h
 .rename_i hu;simp[isAgg,yAM hu]
 .rename_i hu;simp[isAgg,yAM hu]
 .rename_i d h1 h2 hu;simp only[isAgg,yAZ,yAM hu,yBk];rfl
theorem GW{P:Program}{c:Cx}{cs:Ge}{ds:Gc}(h:aV c cs ds)(h1:∀v∈cs,v.oneCell'=true){t:TypeId}{off:Nat}{p:PD}(hp:nP P t ds off=some p)(w:World) :
  ∃v,(part t cs.toArray off).run P w=.ok v w/\VR c v p:=by
 unfold nP at hp;split at hp
 .rename_i n ha hs;split at hp
  .simp at hp;subst hp;refine⟨.agg ((cs.drop off).take n).toArray,?_,?_⟩
   .simp[part,NZ ha,nG hs,List.extract_toArray,List.extract_eq_take_drop]
   .have h2:=h.take_drop off n;exact .agg _ _ h2.1 (λv hv=>h1 v (yBi (yAy hv))) h2.2
  .simp at hp
 .rename_i n ha hs;obtain⟨v,hv,hr⟩:=h.get hp;exact⟨v,by simp[part,NZ ha,hv],hr⟩
 .simp at hp
end
section
theorem aB0(l:List UInt8):(ByteArray.mk l.toArray).toList=l:=by rw[ByteArray.toList_eq]
theorem aBZ{op:BinOp}{k:IntKind}{x y z:Int}(h:BK op k x y=some z)(P:Program)(w:World):(Op.intBits op k x y).run P w=.ok (.int k z) w:=by
 cases op<;>simp only[BK,yAb,reduceCtorEq]at h<;>subst h<;>rfl
theorem aJo{op:BinOp}{k:IntKind}{x y:Int}{p:PD}(h:iE op k x y=some p)(hs:op≠.shl/\op≠.shr)(c:Cx)(P:Program)(t:TypeId)(w:World) :
  ∃v,(binOp op t (.int k x) (.int k y)).run P w=.ok v w/\VR c v p:=by
 cases op<;>simp only[iE]at h<;>first
  |(simp at hs;done)
  |(simp at h;subst h;refine⟨_,?_,VR.int _ _⟩;simp[binOp,Op.intArith];done)
  |(simp at h;subst h;refine⟨_,?_,VR.bool _⟩;simp[binOp,Op.intCmp];done)
  |(split at h
    .exact ak
    .rename_i h0;simp at h;subst h;refine⟨_,?_,VR.int _ _⟩;simp[binOp,Op.intDiv,h0])
  |(split at h
    .rename_i z hz;simp at h;subst h;refine⟨_,?_,VR.int _ _⟩;simp only[binOp,ne_eq,yBM,yAN];exact aBZ hz P w
    .simp at h)
theorem aBW{op:BinOp}{k k':IntKind}{x y:Int}{p:PD}(h:JA op k x y=some p)(hs:op=.shl\/op=.shr)(c:Cx)(P:Program)(t:TypeId)(w:World) :
  ∃v,(binOp op t (.int k x) (.int k' y)).run P w=.ok v w/\VR c v p:=by
 unfold JA at h;split at h
 .exact ak
 .rename_i h0;rcases hs with rfl|rfl<;>simp at h<;>subst h<;>refine⟨_,?_,VR.int _ _⟩<;>simp[binOp,Op.shift,h0]
theorem aJq(a b:List UInt8):(ByteArray.mk a.toArray)++(ByteArray.mk b.toArray)=ByteArray.mk (a++b).toArray:=by
 apply ByteArray.ext;simp
theorem N1(a:List UInt8):(ByteArray.mk a.toArray).size=a.length:=Eg
theorem aJp{op:BinOp}{x y:Gd}{p:PD}(h:I9 op x y=some p)(c:Cx)(P:Program)(t:TypeId)(w:World) :
  ∃v,(binOp op t (.string ⟨x.toArray⟩) (.string ⟨y.toArray⟩)).run P w=.ok v w/\VR c v p:=by
 cases op<;>simp only[I9]at h<;>first
  |(simp at h;done)
  |(split at h
    .rename_i hl;simp at h;subst h;refine⟨_,?_,VR.str _⟩;have:¬((((ByteArray.mk x.toArray).size+(ByteArray.mk y.toArray).size:Nat):Int) > IntKind.i64.max):=by
      rw[N1,N1];simp only[maxLen]at hl;simp[IntKind.max,IntKind.signed,IntKind.bits];omega
     simp only[binOp,Op.stringOp,yAI this,yBm,aJq]
    .simp at h)
  |(simp at h;subst h;refine⟨_,?_,VR.bool _⟩;simp[binOp,Op.stringOp])
section eq
variable{P:Program}{c:Cx}
theorem TM{eq:TypeId->PD->PD->Option Bool}{d:Nat}
  (ih:∀t x y b vx vy (w:World),eq t x y=some b->VR c vx x->VR c vy y->(Op.equalIn d t vx vy).run P w=.ok b w)
  {xs ys:Ge} {px py:Gc} (hx:aV c xs px) (hx1:∀v∈xs,v.oneCell'=true) (hy:aV c ys py) (hy1:∀v∈ys,v.oneCell'=true) (w:World) :
  ∀(fs:List Field) (b:Bool),zI eq P px py fs=some b->(Op.eqFields d xs.toArray ys.toArray fs).run P w=.ok b w
 | [],b,h=>by simp[zI]at h;subst h;rfl
 |f::fs,b,h=>by
  unfold zI at h;unfold Op.eqFields;split at h
  .rename_i hn;rw[yAI Dz];exact TM ih hx hx1 hy hy1 w fs b h
  .rename_i hn;rw[yAJ Dz];split at h
   .rename_i a b' ha hb;obtain⟨va,ra,qa⟩:=GW hx hx1 ha w;obtain⟨vb,rb,qb⟩:=GW hy hy1 hb w;split at h
    .rename_i he;have:=ih _ _ _ _ va vb w he qa qb;simp only[yAZ,ra,rb,this,yBk];simpa using TM ih hx hx1 hy hy1 w fs b h
    .rename_i he;simp at h;subst h;have:=ih _ _ _ _ va vb w he qa qb;simp[ra,rb,this]
    .exact ak
   .exact ak
theorem aB1{e:TypeId}{eq:PD->PD->Option Bool}{d n:Nat}(hn:cH P e=some n)
  (ih:∀x y b vx vy (w:World),eq x y=some b->VR c vx x->VR c vy y->(Op.equalIn d e vx vy).run P w=.ok b w)
  {xs ys:Ge} {px py:Gc} (hx:aV c xs px) (hx1:∀v∈xs,v.oneCell'=true) (hy:aV c ys py) (hy1:∀v∈ys,v.oneCell'=true) (w:World) :
  ∀(m i:Nat) (b:Bool),BE eq P e n px py i m=some b ->
   (forIn (m:=Sem) (List.range' i m) (none,PUnit.unit) (fun(i:Nat) (_:Option Bool×PUnit)=>do
    if !(<-Op.equalIn d e (<-part e xs.toArray (i*n)) (<-part e ys.toArray (i*n)))then
     pure (ForInStep.done (some false,PUnit.unit))
    else do
     pure PUnit.unit
     pure (ForInStep.yield (none,PUnit.unit)))).run P w=.ok (if b then none else some false,PUnit.unit) w
 |0,i,b,h=>by simp[BE]at h;subst h;rfl
 |m+1,i,b,h=>by
  unfold BE at h;split at h
  .rename_i a b' ha hb;obtain⟨va,ra,qa⟩:=GW hx hx1 ha w;obtain⟨vb,rb,qb⟩:=GW hy hy1 hb w;split at h
   .rename_i he;have:=ih _ _ _ va vb w he qa qb;rw[yDn];have r:=aB1 hn ih hx hx1 hy hy1 w m (i+1) b h;simp only[List.forIn_cons,yAZ,ra,rb,this,yBk,yBJ,yAx,yAN,yBm];exact r
   .rename_i he;simp at h;subst h;have:=ih _ _ _ va vb w he qa qb;rw[yDn];simp[ra,rb,this]
   .exact ak
  .exact ak
theorem N2:∀(d k:Nat) (t:TypeId) (x y:PD) (b:Bool) (vx vy:Value) (w:World),lB P d t x y=some b->VR c vx x->VR c vy y ->
  (Op.equalIn (d+k) t vx vy).run P w=.ok b w
 |0,_,_,_,_,_,_,_,_,h,_,_=>by simp[lB]at h
 |d+1,k,t,x,y,b,vx,vy,w,h,hx,hy=>by
  rw[show d+1+k=(d+k)+1 by omega];unfold lB at h;split at h
  .rename_i hu;split at h<;>simp at h
   subst h;rw[hx.zM,hy.zM];exact run_equalIn_bool' w _ t _ _ hu
  .rename_i kk hu;split at h<;>simp at h
   obtain⟨rfl,rfl⟩:=h;rw[hx.pL,hy.pL];exact run_equalIn_int w _ t _ kk _ _ hu
  .rename_i hu;split at h<;>simp at h
   subst h;rw[hx.sI,hy.sI,run_equalIn_string w _ t _ _ hu,aB0,aB0]
  .rename_i e hu;split at h<;>simp at h<;>subst h
   .rw[hx.D9,hy.D9];simp[Op.equalIn,yAM hu]
   .obtain⟨b,e2,_⟩:=hy.tE;rw[hx.D9,e2];simp[Op.equalIn,yAM hu]
   .obtain⟨ad,fl,e2,_⟩:=hy.GU;rw[hx.D9,e2];simp[Op.equalIn,yAM hu]
   .obtain⟨b,e2,_⟩:=hx.tE;rw[hy.D9,e2];simp[Op.equalIn,yAM hu]
   .obtain⟨ad,fl,e2,_⟩:=hx.GU;rw[hy.D9,e2];simp[Op.equalIn,yAM hu]
  .rename_i hu;split at h<;>simp at h<;>subst h
   .rw[hx.N3,hy.N3];simp[Op.equalIn,yAM hu]
   .obtain⟨_,e2,_⟩:=hy.JD;rw[hx.N3,e2];simp[Op.equalIn,yAM hu]
   .obtain⟨_,e2,_⟩:=hx.JD;rw[hy.N3,e2];simp[Op.equalIn,yAM hu]
  .rename_i fs hu;split at h
   .rename_i px py;split at h
    .exact ak
    .rename_i hst;obtain⟨xs,rfl,hxs,hx1⟩:=hx.zT;obtain⟨ys,rfl,hys,hy1⟩:=hy.zT;have hfo:P.fieldsOf t=fs:=by simp[Program.fieldsOf,hu]
     rw[run_equalIn_struct w _ t _ _ (by rw[hfo];exact hu) (by simpa using hst),hfo];exact TM (λt x y b vx vy w h hx hy=>N2 d k t x y b vx vy w h hx hy) hxs hx1 hys hy1 w fs.toList b h
   .exact ak
  .rename_i len e hu;split at h
   .rename_i px py;split at h
    .rename_i n hn;obtain⟨xs,rfl,hxs,hx1⟩:=hx.zT;obtain⟨ys,rfl,hys,hy1⟩:=hy.zT;have r:=aB1 (P:=P) (d:=d+k) hn (λx y b vx vy w h hx hy=>N2 d k e x y b vx vy w h hx hy) hxs hx1 hys hy1 w len 0 b h;simp only[Op.equalIn,yAZ,yAM hu,nG hn,yBk];rw[Std.Legacy.Range.forIn_eq_forIn_range'];simp only[Std.Legacy.Range.size];rw[show(len-0+1-1)/1=len by simp];refine Eq.trans (yAK (λz=>Result.andThen z _) r) ?_;cases b<;>rfl
    .exact ak
   .exact ak
  .exact ak
end eq
end
section
section
variable{P:Program}{c:Cx}
theorem aBT{d:Nat}{t:TypeId}{x y:PD}{b:Bool}(h:lB P d t x y=some b):(∀v,x≠.fT v)/\∀v,y≠.fT v:=by
 cases d with
 |zero=>cases h
 |succ d=>
  unfold lB at h
  constructor
  .rintro v rfl
   split at h<;>cases h
  .rintro v rfl
   split at h<;>(first|(cases h;done)|(split at h<;>first|(cases h;done)|(rename_i h' ;cases h';done)|contradiction))
theorem aBU{t:TypeId}{x y:PD}{b:Bool}(h:pB P t x y=some b):(∀v,x≠.fT v)/\∀v,y≠.fT v:=by
 unfold pB at h;split at h
 .exact⟨λv e=>Bj,λv e=>Bj⟩
 .exact aBT h
theorem aBV{t:TypeId}{x y:PD}{b:Bool}(h:pB P t x y=some b){vx vy:Value}(hx:VR c vx x)(hy:VR c vy y)(w:World)(op:BinOp)(ox oy:Operand) :
  (Op.equal t vx vy).run P w=.ok b w/\(eqGuard op t ox oy vx vy).run P w=.ok () w:=by
 unfold pB at h;split at h
 .rename_i px py;split at h
  .exact ak
  .rename_i hg;refine⟨N2 12 9988 t _ _ b vx vy w h hx hy,?_⟩;obtain⟨xs,rfl,_⟩:=hx.zT;obtain⟨ys,rfl,_⟩:=hy.zT;exact run_eqGuard_agg w op t ox oy _ _ (by simpa using hg)
 .rename_i hne;refine⟨N2 12 9988 t _ _ b vx vy w h hx hy,?_⟩;obtain⟨q1,q2⟩:=aBT h;cases hx<;>cases hy<;>first
   |exact(hne _ _ rfl rfl).elim
   |exact absurd rfl (q1 _)
   |exact absurd rfl (q2 _)
   |(cases op<;>rfl)
theorem aJb{op:BinOp}{t:TypeId}{x y p:PD}(h:dW P op t x y=some p){vx vy:Value}(hx:VR c vx x)(hy:VR c vy y)(w:World)(ox oy:Operand) :
  ∃v,(do eqGuard op t ox oy vx vy;binOp op t vx vy:Sem Value).run P w=.ok v w/\VR c v p:=by
 unfold dW at h;split at h
 .rename_i k a k' b;have e1:=hx.pL;have e2:=hy.pL;subst e1;subst e2;have hg:(eqGuard op t ox oy (.int k a) (.int k' b)).run P w=.ok () w:=by cases op<;>rfl
  split at h
  .obtain⟨v,r,q⟩:=aBW (k':=k') h (.inl rfl) c P t w;exact qx
  .obtain⟨v,r,q⟩:=aBW (k':=k') h (.inr rfl) c P t w;exact qx
  .rename_i n1 n2;split at h
   .rename_i hk;subst hk;obtain⟨v,r,q⟩:=aJo h ⟨by rintro rfl;exact n1 rfl,by rintro rfl;exact n2 rfl⟩ c P t w;exact qx
   .exact ak
 .rename_i a b;have e1:=hx.sI;have e2:=hy.sI;subst e1;subst e2;have hg:(eqGuard op t ox oy (.string ⟨a.toArray⟩) (.string ⟨b.toArray⟩)).run P w=.ok () w:=by cases op<;>rfl
  obtain⟨v,r,q⟩:=aJp h c P t w;exact qx
 .rename_i n1 n2;split at h
  .split at h
   .rename_i b hb;simp at h;subst h;obtain⟨r1,r2⟩:=aBV hb hx hy w .eql ox oy;refine⟨.bool b,?_,.bool b⟩;simp only[yAZ,r2,yBk];have:(binOp .eql t vx vy)=(do pure (.bool (<-Op.equal t vx vy)):Sem Value):=by
     exact jb
    rw[this];simp[r1]
   .exact ak
  .split at h
   .rename_i b hb;simp at h;subst h;obtain⟨r1,r2⟩:=aBV hb hx hy w .neq ox oy;refine⟨.bool (!b),?_,.bool _⟩;simp only[yAZ,r2,yBk];have:(binOp .neq t vx vy)=(do pure (.bool (!(<-Op.equal t vx vy))):Sem Value):=by
     exact jb
    rw[this];simp[r1]
   .exact ak
  .exact ak
theorem aBX{v:Value}{a:PD}{b:Bool}(hv:VR c v a)(h:gQ a=some b):∃A n cap,v=.slice A n cap/\b=A.isNone:=by
 unfold gQ at h;split at h
 .rename_i n xs tok;obtain⟨A,cap,fl,rfl,h1,h2,h3,h4,h5,h6,h7,h8⟩:=hv.oF;refine⟨A,xs.length,cap,rfl,?_⟩;split at h
  .rename_i hc;simp only[yAb]at h;subst h;have:0<fl.length:=by rw[h4];exact yDr (yCY hc.1) (yCY hc.2)
   obtain⟨ad,rfl,_⟩:=h6 0 fl[0] (by simp[this]);rfl
  .split at h
   .simp only[yAb]at h;subst h;obtain⟨e,_⟩:=h8;exact tj
   .simp only[yAb]at h;subst h;obtain⟨k,m,e⟩:=h8;exact tj
   .simp only[yAb]at h;subst h;obtain⟨a',k,m,e⟩:=h8;exact tj
   .cases h
 .obtain⟨b,cap,rfl,_⟩:=hv.D1;simp only[yAb]at h;subst h;exact⟨_,_,_,rfl,rfl⟩
 .obtain⟨b,cap,rfl,_⟩:=hv.BU;simp only[yAb]at h;subst h;exact⟨_,_,_,rfl,rfl⟩
 .cases h
theorem aBY{t e:TypeId}(hu:P.underlying t=some (.slice e))(A:Option Addr)(n cap:Nat)(w:World):(Op.equal t (.slice A n cap) (.slice none 0 0)).run P w=.ok A.isNone w:=by
 show(Op.equalIn (9999+1) t (.slice A n cap) (.slice none 0 0)).run P w=_
 unfold Op.equalIn;cases A<;>simp[yAM hu]
theorem aJc{op:BinOp}{t:TypeId}{a p:PD}{y:Operand}(h:BI P op t a y=some p){ac:Act}{vx:Value}(hx:VR c vx a)(w:World)(ox:Operand) :
  ∃v,(do eqGuard op t ox y vx (ac.eval y);binOp op t vx (ac.eval y):Sem Value).run P w=.ok v w/\VR c v p:=by
 unfold BI at h;split at h
 .split at h
  .rename_i e hu;split at h
   .rename_i b hb;simp only[yAb]at h;subst h;obtain⟨A,n,cap,rfl,rfl⟩:=aBX hx hb;refine⟨.bool A.isNone,?_,.bool _⟩;have hg:(eqGuard .eql t ox (.const (.slice none 0 0)) (.slice A n cap) (.slice none 0 0)).run P w=.ok () w:=rfl;have hb:(binOp .eql t (.slice A n cap) (.slice none 0 0))=(do pure (.bool (<-Op.equal t (.slice A n cap) (.slice none 0 0))):Sem Value):=rfl;simp only[Act.eval,yAZ,hg,hb,yBk,aBY hu,yBm]
   .rename_i b hb;simp only[yAb]at h;subst h;obtain⟨A,n,cap,rfl,rfl⟩:=aBX hx hb;refine⟨.bool (!A.isNone),?_,.bool _⟩;have hg:(eqGuard .neq t ox (.const (.slice none 0 0)) (.slice A n cap) (.slice none 0 0)).run P w=.ok () w:=rfl;have hb:(binOp .neq t (.slice A n cap) (.slice none 0 0))=(do pure (.bool (!(<-Op.equal t (.slice A n cap) (.slice none 0 0)))):Sem Value):=rfl;simp only[Act.eval,yAZ,hg,hb,yBk,aBY hu,yBm]
   .cases h
  .cases h
 .cases h
theorem aJd{op:UnOp}{x p:PD}(h:F5 op x=some p){vx:Value}(hx:VR c vx x)(w:World):∃v,(Op.unary op vx).run P w=.ok v w/\VR c v p:=by
 unfold F5 at h;split at h
 .simp only[yAb]at h;subst h;rw[hx.pL];exact⟨_,rfl,.int _ _⟩
 .rw[hx.pL];split at h
  .rename_i z hz;simp at h;subst h;exact⟨_,aBZ hz P w,.int _ _⟩
  .exact ak
 .simp at h;subst h;rw[hx.zM];exact⟨_,rfl,.bool _⟩
 .exact ak
theorem aJe{s d:TypeId}{x p:PD}(h:I7 P s d x=some p){vx:Value}(hx:VR c vx x)(w:World):∃v,(convert s d vx).run P w=.ok v w/\VR c v p:=by
 unfold I7 at h;split at h
 .rename_i hs hd;simp at h;subst h;rw[hx.pL];exact⟨_,by simp[convert,yAM hs,yAM hd,Conv.intToInt],.int _ _⟩
 .rename_i hs hd;simp at h;subst h;rw[hx.sI];exact⟨_,by simp[convert,yAM hs,yAM hd],.str _⟩
 .exact ak
theorem D4{x:PD}{i:Nat}(h:gU (some x)=some i){v:Value}(hx:VR c v x):∃k z,v=.int k z/\0<=z/\z.toNat=i:=by
 unfold gU at h;split at h
 .rename_i k z e;simp at e;subst e;split at h
  .simp at h;exact⟨k,z,hx.pL,‹_›,h⟩
  .exact ak
 .exact ak
theorem DL(a:Addr)(i j:Nat):(a.add i).add j=a.add (i+j):=by
 unfold Addr.add
 by_cases hi:i=0<;>by_cases hj:j=0<;>simp[hi,hj,yBW]
theorem TL{s:TypeId}{fs:Array Field}{fd:Field}{f n:Nat}(hu:P.underlying s=some (.struct fs))(hf:fs[f]?=some fd)(hn:cH P fd.type=some n)(h0:n≠0)(a:Addr)(w:World) :
  (Instr.fieldAt s (.pointer (some a)) f).run P w=.ok (.pointer (some (a.add fd.offset))) w:=by
 simp[Instr.fieldAt,yAM hu,hf,Instr.sureAddr,fieldPlace,nG hn,h0]
theorem aJg{s:TypeId}{x p:PD}{f:Nat}(h:BF P s x f=some p){vx:Value}(hx:VR c vx x)(w:World):∃v,(Instr.fieldAt s vx f).run P w=.ok v w/\VR c v p:=by
 unfold BF at h;split at h
 .rename_i fs hu;split at h
  .rename_i fd hf;split at h
   .rename_i n hn;split at h
    .exact ak
    .rename_i h0;split at h
     .rename_i id off;simp at h;subst h;obtain⟨b,rfl,h1,h2,h3⟩:=hx.tE;refine⟨_,TL hu hf hn h0 _ w,?_⟩;have:(⟨b,off,none⟩:Addr).add fd.offset=⟨b,off+fd.offset,none⟩:=Av;rw[this];exact .ptr _ _ b h1 h2 h3
     .rename_i cs off;simp at h;subst h;obtain⟨ad,fl,rfl,h1,h2,h3⟩:=hx.GU;refine⟨_,TL hu hf hn h0 _ w,?_⟩;rw[DL];exact .eO ad fl cs _ h1.1 h2 h3 h1.2
     .rename_i id ver off;simp at h;subst h;obtain⟨b,rfl,h1⟩:=hx.GN;refine⟨_,TL hu hf hn h0 _ w,?_⟩;have:(⟨b,off,none⟩:Addr).add fd.offset=⟨b,off+fd.offset,none⟩:=Av;rw[this];exact .dH _ _ _ b h1
     .exact ak
   .exact ak
  .exact ak
 .exact ak
theorem aJh{t:TypeId}{x p:PD}{f:Nat}(h:F6 P t x f=some p){vx:Value}(hx:VR c vx x)(w:World):∃v,(Instr.field t vx f).run P w=.ok v w/\VR c v p:=by
 unfold F6 at h;split at h
 .rename_i fs ds hu;split at h
  .rename_i fd hf;obtain⟨cs,rfl,h1,h2⟩:=hx.zT;obtain⟨v,r,q⟩:=GW h1 h2 h w;exact⟨v,by simp[Instr.field,yAM hu,hf,asAgg,r],q⟩
  .exact ak
 .exact ak
theorem S7(size:Nat):∀(xs:List PD),(∀x∈xs,x.cells.length=size)->∀(i:Nat) (p:PD),xs[i]?=some p->∀j,j<size->(xs.flatMap PD.cells)[i*size+j]?=p.cells[j]?
 | [],_,i,p,h,_,_=>Br
 |x::xs,hx,0,p,h,j,hj=>by
  simp at h;subst h;have:=hx x Ai;simp[yBr,yDb,this,hj]
 |x::xs,hx,i+1,p,h,j,hj=>by
  have hl:=hx x Ai;have r:=S7 size xs (λy hy=>hx y Ck) i p Bh j hj;rw[yBr,yBS (by rw[hl,yBw];omega),hl];rw[show(i+1)*size+j-size=i*size+j by rw[yBw];omega];exact r
theorem aJi{t:TypeId}{x i p:PD}(h:jZ P t x i=some p){vx vi:Value}(hx:VR c vx x)(hi:VR c vi i)(w:World):∃v,(Instr.indexAt t vx vi).run P w=.ok v w/\VR c v p:=by
 unfold jZ at h;split at h
 .rename_i m len e hm hu;obtain⟨k,z,rfl,h0,rfl⟩:=D4 hm hi;split at h
  .rename_i n hn;split at h
   .rename_i hlt;split at h
    .rename_i id off;simp at h;subst h;obtain⟨b,rfl,h1,h2,h3⟩:=hx.tE;refine⟨.pointer (some ⟨b,off+z.toNat*n,none⟩),?_,.ptr _ _ b h1 h2 h3⟩;exact gw
    .rename_i cs off;simp at h;subst h;obtain⟨ad,fl,rfl,h1,h2,h3⟩:=hx.GU;have hz:z<(len:Int):=Ah;refine⟨.pointer (some (ad.add (off+z.toNat*n))),?_,.eO ad fl cs _ h1.1 h2 h3 h1.2⟩;simp[Instr.indexAt,asIntOf,yAM hu,Instr.sureAddr,h0,hz,nG hn,DL]
    .rename_i id ver off;simp at h;subst h;obtain⟨b,rfl,h1⟩:=hx.GN;refine⟨.pointer (some ⟨b,off+z.toNat*n,none⟩),?_,.dH _ _ _ b h1⟩;exact gw
    .exact ak
   .exact ak
  .exact ak
 .rename_i m e hm hu;obtain⟨k,z,rfl,h0,rfl⟩:=D4 hm hi;split at h
  .rename_i size xs tok n hn;split at h
   .rename_i hsz;obtain⟨hsz,hn0⟩:=hsz;split at h
    .rename_i q hq;simp at h;subst h;have hsz:n=size:=hsz.resolve_left (λe=>by rw[yAf e]at hq;simp at hq);subst hsz;obtain⟨A,cap,fl,rfl,h1,h2,h3,h4,h5,h6,h7,h8⟩:=hx.oF;have hlt:z.toNat<xs.length:=(yA.1 hq).1;have hz:z<(xs.length:Int):=Ah;have hql:=h3 q (yAE hq);have hin:z.toNat*n<fl.length:=by
      rw[h4];exact Nat.mul_lt_mul_of_pos_right hlt hn0
     obtain⟨ad,rfl,_,_⟩:=h6 (z.toNat*n) fl[z.toNat*n] (by simp[hin]);refine⟨.pointer (some ((ad.add (z.toNat*n)).add 0)),?_,?_⟩
     .simp[Instr.indexAt,asIntOf,yAM hu,h0,hz,nG hn,Addr.add]
     .have hle:z.toNat*n+n<=fl.length:=by
       rw[h4,<-yBU];exact yBO _ hlt
      refine .eO (ad.add (z.toNat*n)) ((fl.drop (z.toNat*n)).take n) q.cells 0 (by simp[hql];omega) (λv hv=>h5 v (yBi (yAy hv))) ?_ ?_
      .intro j v hv;rw[yAv]at hv;split at hv
       .rw[yBn]at hv;obtain⟨JM,e',h9,h10⟩:=h6 _ v hv;cases e';rw[DL];exact⟨h9,h10⟩
       .simp at hv
      .intro j v d hv hd;rw[yAv]at hv;split at hv
       .rename_i hj;rw[yBn]at hv;exact h7 _ v d hv (by rw[S7 n xs h3 _ _ hq j hj];exact hd)
       .simp at hv
    .exact ak
   .exact ak
  .rename_i id off m' size n hn;split at h
   .rename_i hc;obtain⟨rfl,hlt⟩:=hc;simp at h;subst h;obtain⟨b,cap,rfl,h1,h2,h3,_,_⟩:=hx.D1;refine⟨.pointer (some ⟨b,off+z.toNat*n,none⟩),?_,.ptr _ _ b h1 h2 h3⟩;exact iu
   .exact ak
  .rename_i id ver off m' size n hn;split at h
   .rename_i hc;obtain⟨rfl,hlt⟩:=hc;simp at h;subst h;obtain⟨b,cap,rfl,h1,_,_⟩:=hx.BU;refine⟨.pointer (some ⟨b,off+z.toNat*n,none⟩),?_,.dH _ _ _ b ⟨h1.1,λe sz v' cs hs=>⟨(h1.2 e sz v' cs hs).1,λhv=>by
     obtain⟨_,C,hr,_⟩:=(h1.2 e sz v' cs hs).2 hv;exact⟨C,hr⟩⟩⟩⟩
    exact iu
   .exact ak
  .exact ak
 .exact ak
end
end
section
theorem aJn(s:List UInt8)(l h:Nat):(ByteArray.mk s.toArray).extract l h=⟨((s.drop l).take (h-l)).toArray⟩:=by
 apply ByteArray.ext;simp[ByteArray.data_extract,List.extract_toArray,List.extract_eq_take_drop]
theorem D5{size:Nat}:∀(xs:List PD),(∀x∈xs,x.cells.length=size)->(xs.flatMap PD.cells).length=xs.length*size
 | [],_=>Ai
 |x::xs,h=>by
  rw[yBr,yAa,h x Ai,D5 xs (λy hy=>h y Ck),yAT,yBw];omega
theorem aBP{size:Nat}:∀(xs:List PD) (l:Nat),(∀x∈xs,x.cells.length=size)->(xs.drop l).flatMap PD.cells=(xs.flatMap PD.cells).drop (l*size)
 |xs,0,_=>Ai
 | [],l+1,_=>Ai
 |x::xs,l+1,h=>by
  have hx:=h x Ai;have e1:x.cells.drop ((l+1)*size)=[]:=yAs (by rw[hx,yBw];omega);have e2:(l+1)*size-size=l*size:=by rw[yBw];omega
  rw[yEh,aBP xs l (λy hy=>h y Ck),yBr,List.drop_append,hx,e1,e2,yAO]
theorem aBQ{size:Nat}:∀(xs:List PD) (k:Nat),(∀x∈xs,x.cells.length=size)->(xs.take k).flatMap PD.cells=(xs.flatMap PD.cells).take (k*size)
 |xs,0,_=>Ai
 | [],k+1,_=>Ai
 |x::xs,k+1,h=>by
  have hx:=h x Ai;have e1:x.cells.take ((k+1)*size)=x.cells:=yAz (by rw[hx,yBw];omega);have e2:(k+1)*size-size=k*size:=by rw[yBw];omega
  rw[yDG,yBr,aBQ xs k (λy hy=>h y Ck),yBr,List.take_append,hx,e1,e2]
section
variable{P:Program}{c:Cx}
theorem aJj{t:TypeId}{x i p:PD}(h:zL P t x i=some p){vx vi:Value}(hx:VR c vx x)(hi:VR c vi i)(w:World):∃v,(Instr.index t vx vi).run P w=.ok v w/\VR c v p:=by
 unfold zL at h;split at h
 .rename_i m len e ds hm hu;obtain⟨k,z,rfl,h0,rfl⟩:=D4 hm hi;split at h
  .rename_i n hn;split at h
   .rename_i hlt;obtain⟨cs,rfl,h1,h2⟩:=hx.zT;obtain⟨v,r,q⟩:=GW h1 h2 h w;have hz:z<(len:Int):=Ah;exact⟨v,by simp[Instr.index,asIntOf,yAM hu,h0,hz,nG hn,r],q⟩
   .exact ak
  .exact ak
 .rename_i m s hm hu;obtain⟨k,z,rfl,h0,rfl⟩:=D4 hm hi;split at h
  .rename_i b hb;simp only[yAb]at h;subst h;rw[hx.sI];refine⟨.int .u8 b.toNat,?_,.int _ _⟩;have hlt:z.toNat<s.length:=(yA.1 hb).1;have:(ByteArray.mk s.toArray)[z.toNat]?=some b:=by
    rw[getElem?_pos _ _ (by simpa [ByteArray.size]using hlt)];have hg:s[z.toNat]=b:=(yA.1 hb).2;simp only[ByteArray.getElem_eq_getElem_data,yAb];simpa using hg
   simp[Instr.index,asIntOf,yAM hu,h0,this]
  .exact ak
 .exact ak
theorem GX{a:Act}{fr:Gc}(hf:FR c a fr){x:Operand}{m:Nat}(h:gU (aZ fr x)=some m):∃k z,a.eval x=.int k z/\0<=z/\z.toNat=m:=by
 cases he:aZ fr x with
 |none=>simp[he,gU]at h
 |some p=>
  rw[he]at h;exact D4 h (eC hf he)
theorem JX{a:Act}{fr:Gc}(hf:FR c a fr){n cap l h:Nat}{lo hi:Option Operand}(hb:mP n (lo.map (aZ fr)) (hi.map (aZ fr))=some (l,h))(hc:n<=cap)(isS:Bool)(w:World) :
  l<=h/\h<=n/\(Instr.sliceBounds isS n cap (lo.map a.eval) (hi.map a.eval) none).run P w=.ok (l,h,cap) w:=by
 unfold mP at hb;split at hb
 .rename_i h' l' h1 h2;split at hb
  .rename_i hle;simp only[yAb,yAc]at hb;obtain⟨rfl,rfl⟩:=hb;refine⟨hle.1,hle.2,?_⟩;cases hi with
   |none=>
    simp at h1;subst h1;cases lo with
    |none=>simp at h2;subst h2;simp[Instr.sliceBounds]
    |some lo=>
     obtain⟨k,z,e,h0,rfl⟩:=GX hf (by simpa using h2);have hz:z<=(n:Int):=Ah;simp[Instr.sliceBounds,e,yCz (P:=P) (w:=w) k z _ _ h0 hz]
   |some hi=>
    obtain⟨k',z',e',h0',rfl⟩:=GX hf Ca;have D8:z'<=(cap:Int):=Ah;cases lo with
    |none=>simp at h2;subst h2;simp[Instr.sliceBounds,e',yCz (P:=P) (w:=w) k' z' _ _ h0' D8]
    |some lo=>
     obtain⟨k,z,e,h0,rfl⟩:=GX hf (by simpa using h2);have hz:z<=(z'.toNat:Int):=Ah;simp[Instr.sliceBounds,e,e',yCz (P:=P) (w:=w) k' z' _ _ h0' D8,yCz (P:=P) (w:=w) k z _ _ h0 hz]
  .simp at hb
 .simp at hb
theorem aBR{a:Act}{fr:Gc}(hf:FR c a fr){n cap l h m:Nat}{lo:Option Operand}{hi mx:Operand}(hb:mP n (lo.map (aZ fr)) ((some hi).map (aZ fr))=some (l,h))(hm:gU (aZ fr mx)=some m)
  (h1:h<=m) (h2:m<=n) (hc:n<=cap) (isS:Bool) (w:World) :
  l<=h/\h<=n/\(Instr.sliceBounds isS n cap (lo.map a.eval) (some (a.eval hi)) (some (a.eval mx))).run P w=.ok (l,h,m) w:=by
 obtain⟨km,zm,em,hm0,rfl⟩:=GX hf hm;unfold mP at hb;split at hb
 .rename_i h' l' h3 h4;split at hb
  .rename_i hle;simp only[yAb,yAc]at hb;obtain⟨rfl,rfl⟩:=hb;refine⟨hle.1,hle.2,?_⟩;obtain⟨k',z',e',h0',rfl⟩:=GX hf Fg;have hzm:zm<=(cap:Int):=Ah;have D8:z'<=(zm.toNat:Int):=Ah;cases lo with
   |none=>simp at h4;subst h4;simp[Instr.sliceBounds,e',em,yCz (P:=P) (w:=w) km zm _ _ hm0 hzm,yCz (P:=P) (w:=w) k' z' _ _ h0' D8]
   |some lo=>
    obtain⟨k,z,e,h0,rfl⟩:=GX hf (by simpa using h4);have l8:z<=(z'.toNat:Int):=Ah;simp[Instr.sliceBounds,e,e',em,yCz (P:=P) (w:=w) km zm _ _ hm0 hzm,yCz (P:=P) (w:=w) k' z' _ _ h0' D8,yCz (P:=P) (w:=w) k z _ _ h0 l8]
  .simp at hb
 .simp at hb
theorem aBS{A:Option Addr}{cap size n l h m:Nat}{xs:Gc}{fl:Ge}{tok:Tok}(hn:xs.length=0\/n=size)(hlh:l<=h)(hhx:h<=xs.length)(hhm:h<=m)(hmc:m<=cap)(hcm:cap<=maxLen)
  (h3:∀x∈xs,x.cells.length=size) (h4:fl.length=xs.length*size) (h5:∀v∈fl,v.oneCell'=true)
  (h6:∀(j:Nat) (v:Value),fl[j]?=some v->∃ad,A=some ad/\c.w.cell? (ad.add j)=some v/\c.av (ad.add j))
  (h7:∀(j:Nat) (v:Value) (d:PD),fl[j]?=some v->(xs.flatMap PD.cells)[j]?=some d->VR c v d)
  (ht:rC c size (h-l) (m-l) (.slice (if m=l then A else A.map (·.add (l*n))) (h-l) (m-l)) tok) :
  VR c (.slice (if m=l then A else A.map (·.add (l*n))) (h-l) (m-l)) (.slice size ((xs.drop l).take (h-l)) tok):=by
 have hxs:∀x∈(xs.drop l).take (h-l),x.cells.length=size:=λx hx=>h3 x (yBi (yAy hx))
 have hlen:((xs.drop l).take (h-l)).length=h-l:=Aw;have hdl:∀x∈xs.drop l,x.cells.length=size:=λx hx=>h3 x (yBi hx)
 have hfl:((fl.drop (l*size)).take ((h-l)*size)).length=(h-l)*size:=by
  have:l*size+(h-l)*size<=fl.length:=by
   rw[h4,<-yBw];exact yBO _ Ah
  simp;omega
 refine .slice _ _ _ size _ tok ((fl.drop (l*size)).take ((h-l)*size)) hlen.symm Ah Ah hxs hfl
  (λv hv=>h5 v (yBi (yAy hv))) ?_ ?_ ht
 .intro j v hv;have hj:j<(h-l)*size:=by rw[<-hfl];exact(yA.1 hv).1
  rw[yAv,yAJ hj,yBn]at hv;obtain⟨ad,rfl,h9,h10⟩:=h6 _ v hv;have hpos:0<h-l:=by
   rcases yEb (h-l)with e|e
   .rw[e]at hj;simp at hj
   .exact e
  have hne:¬m=l:=Ah;have hns:n=size:=hn.resolve_left Ah;subst hns;rw[yAI hne];exact⟨_,rfl,by rw[DL];exact h9,by rw[DL];exact h10⟩
 .intro j v d hv hd;have hj:j<(h-l)*size:=by rw[<-hfl];exact(yA.1 hv).1
  rw[yAv,yAJ hj,yBn]at hv;rw[aBQ _ _ hdl,aBP _ _ h3,yAv,yAJ hj,yBn]at hd;exact h7 _ v d hv hd
theorem aJf{a:Act}{fr:Gc}(hf:FR c a fr){t:TypeId}{x p:PD}{lo hi mx:Option Operand}
  (h:s8 P t x (lo.map (aZ fr)) (hi.map (aZ fr)) (mx.map (aZ fr))=some p) {vx:Value} (hx:VR c vx x) (w:World) :
  ∃v,(Instr.sliceAt t vx (lo.map a.eval) (hi.map a.eval) (mx.map a.eval)).run P w=.ok v w/\VR c v p:=by
 unfold s8 at h;split at h
 .rename_i s hu;split at h
  .exact ak
  .rename_i hmx;have zU:mx=none:=Dc;subst zU;split at h
   .rename_i l hh hb;simp only[yAb]at h;subst h;rw[hx.sI];have hz:(ByteArray.mk s.toArray).size=s.length:=N1 s;obtain⟨h1,h2,h3⟩:=JX (P:=P) hf hb (yAk _) false w;refine⟨.string ⟨((s.drop l).take (hh-l)).toArray⟩,?_,.str _⟩;simp[Instr.sliceAt,Instr.slice,yAM hu,hz,h3,aJn]
   .exact ak
 .rename_i e size xs tok hu;split at h
  .rename_i n l hh hn hb;split at h
   .rename_i hsz;obtain⟨A,cap,fl,rfl,h1,h2,h3,h4,h5,h6,h7,h8⟩:=hx.oF;split at h
    ·
     rename_i hmx;have zU:mx=none:=Dc;subst zU;simp only[yAb]at h;subst h;obtain⟨b1,b2,b3⟩:=JX (P:=P) hf hb h1 true w;refine⟨_,?_,aBS (n:=n) (m:=cap) hsz b1 b2 Ah (yAk _) h2 h3 h4 h5 h6 h7 ?_⟩
     .exact qu
     .by_cases hhe:hh=xs.length
      .rw[yAJ hhe];cases tok with
       |any=>trivial
       |full=>simp only[rC]at h8 ⊢;omega
       |nil=>trivial
       |jF=>trivial
       |jR=>trivial
       |own id=>
        by_cases hl0:l=0
        .subst hl0;simp only[↓reduceIte];have:(if cap=0 then A else A.map (·.add (0*n)))=A:=by
          split
          .rfl
          .cases A<;>simp[Addr.add]
         rw[this,hhe];simpa using h8
        .simp only[hl0,yAN];trivial
      .rw[yAI hhe];trivial
    .rename_i m hmx;split at h
     .rename_i xU m' hhi hm;split at h
      .rename_i hle;simp only[yAb]at h;subst h;cases mx with
       |none=>simp at hmx
       |some mx=>
        cases hi with
        |none=>simp at hhi
        |some hi=>
         simp at hmx;subst hmx;obtain⟨b1,b2,b3⟩:=aBR (P:=P) hf hb hm hle.1 hle.2 h1 true w;refine⟨_,?_,aBS (n:=n) (m:=m') hsz b1 b2 hle.1 Ah h2 h3 h4 h5 h6 h7 ?_⟩
         .exact qu
         .by_cases hme:m'=hh
          .rw[yAJ hme];simp only[rC];omega
          .rw[yAI hme];trivial
      .exact ak
     .exact ak
   .exact ak
  .exact ak
 .rename_i e id off m size hu;split at h
  .rename_i n l hh hn hb hmx;split at h
   .rename_i hc;obtain⟨rfl,hl⟩:=hc;simp only[yAb]at h;subst h;obtain⟨b,cap,rfl,hd,hp,hr,h1,h2⟩:=hx.D1;have zU:mx=none:=Dc;subst zU;obtain⟨b1,b2,b3⟩:=JX (P:=P) hf hb h1 true w;refine⟨.slice (some ⟨b,off+l*n,none⟩) (hh-l) (cap-l),?_,.dJ _ _ _ _ _ b hd hp hr Ah Ah⟩;exact ew
   .exact ak
  .exact ak
 .rename_i e id ver off m size hu;split at h
  .rename_i n l hh hn hb;split at h
   .rename_i hc;subst hc;obtain⟨b,cap,rfl,hp,h1,h2⟩:=hx.BU;split at h
    .rename_i hmx;have zU:mx=none:=Dc;subst zU;obtain⟨b1,b2,b3⟩:=JX (P:=P) hf hb h1 true w;split at h
     .rename_i hl;simp only[yAb]at h;subst h;refine⟨.slice (some ⟨b,off+l*n,none⟩) (hh-l) (cap-l),?_,.aR _ _ _ _ _ _ b ⟨hp.1,λe sz v' cs hs=>⟨(hp.2 e sz v' cs hs).1,λhv=>?_⟩⟩ Ah Ah⟩
      .exact ew
      .obtain⟨q1,C,q2,q3⟩:=(hp.2 e sz v' cs hs).2 hv;refine⟨q1,C,q2,?_⟩;rw[<-q3,Nat.sub_mul,yBW]
       congr 1
       have:l*n<=cap*n:=yBO _ Ah;omega
     .rename_i hl;simp only[yAb]at h;subst h;have hlh:hh-l=0:=Ah;refine⟨.slice (if cap=l then(some ⟨b,off,none⟩:Option Addr)else(some ⟨b,off,none⟩:Option Addr).map (·.add (l*n))) (hh-l) (cap-l),?_,?_⟩
      .simp only[Instr.sliceAt,Instr.slice,yAZ,yAM hu,yBk,yDJ,b3,nG hn,yBm]
      .rw[hlh];exact .slice _ 0 _ n [] .any [] rfl (yAF _) Ah Ai Ai Ai Ai Ai trivial
    .rename_i mv hmx;split at h
     .rename_i xU k hhi hk;split at h
      .rename_i hc;obtain⟨rfl,rfl⟩:=hc;simp only[yAb]at h;subst h;cases mx with
       |none=>simp at hmx
       |some mx=>
        cases hi with
        |none=>simp at hhi
        |some hi=>
         simp at hmx;subst hmx;have hlm:l<=m:=by
          unfold mP at hb;split at hb
          .split at hb
           .simp only[yAb,yAc]at hb;omega
           .cases hb
          .cases hb
         obtain⟨b1,b2,b3⟩:=aBR (P:=P) hf hb hk (yAk _) hlm h1 true w;refine⟨.slice (some ⟨b,off,none⟩) (l-l) (l-l),?_,?_⟩
         .exact qu
         .rw[yCt];exact .slice _ 0 0 n [] .full [] rfl (yAF _) (yAF _) Ai Ai Ai Ai Ai rfl
      .exact ak
     .exact ak
   .exact ak
  .exact ak
 .rename_i len e id off hu;split at h
  .rename_i n l hh hn hb hmx;split at h
   .rename_i hc;obtain⟨hlen,hl⟩:=hc;simp only[yAb]at h;subst h;obtain⟨b,rfl,hd,hp,hr⟩:=hx.tE;have zU:mx=none:=Dc;subst zU;obtain⟨b1,b2,b3⟩:=JX (P:=P) hf hb (yAk _) false w;have hml:len<=maxLen:=yAV hlen (by unfold maxLen;decide);refine⟨.slice (some ⟨b,off+l*n,none⟩) (hh-l) (len-l),?_,.dJ _ _ _ _ _ b hd hp hr Ah Ah⟩;have:(if len=l then(⟨b,off,none⟩:Addr)else(⟨b,off,none⟩:Addr).add (l*n))=⟨b,off+l*n,none⟩:=by
     split
     .have:l=0:=by omega
      subst this;simp
     .simp[Addr.add]
    simp[Instr.sliceAt,Instr.sureAddr,yAM hu,b3,nG hn,this]
   .exact ak
  .exact ak
 .exact ak
end
end
section
section
variable{P:Program}{c:Cx}
theorem aBN(off:Nat):∀(l:List Value) (k:Nat) (cells:Array Value),off+k+l.length<=cells.size ->
  ((l.zipIdx k).foldl (fun(cs:Array Value) (x:Value×Nat)=>cs.setIfInBounds (off+x.2) x.1) cells).toList=cells.toList.take (off+k)++l++cells.toList.drop (off+k+l.length)
 | [],k,cells,_=>Ai
 |v::l,k,cells,h=>by
  simp only[yAT]at h;rw[List.zipIdx_cons,yDm,aBN off l (k+1) _ Aw];simp only[yE,yAT];have e1:(cells.toList.set (off+k) v).take (off+(k+1))=cells.toList.take (off+k)++[v]:=by
   have hlt:off+k<cells.toList.length:=Aw;rw[show off+(k+1)=(off+k)+1 by omega,yBC (by simpa using hlt)]
   congr 1
   .rw[List.take_set];rw[yEg Aw]
   .simp
  have e2:(cells.toList.set (off+k) v).drop (off+(k+1)+l.length)=cells.toList.drop (off+k+(l.length+1)):=by
   rw[List.drop_set_of_lt Ah]
   congr 1
   omega
  rw[e1,e2];simp
theorem TJ{cells:Ge}{z:Gc}(hz:aV c cells z){v:Value}{p:PD}(hv:VR c v p)(off:Nat)(hle:off+p.cells.length<=z.length) :
  aV c (cells.take off++v.cells.toList++cells.drop (off+v.cells.toList.length)) (dG z off p.cells):=by
 have hc:=hv.cells;have hl:v.cells.toList.length=p.cells.length:=hc.1;have h0:cells.length=z.length:=hz.1;refine⟨by simp[dG,hl,h0],λi u d hu hd=>?_⟩;unfold dG at hd;rw[yAi]at hu hd;rw[yDb]at hu hd;simp only[yAt]at hu hd
 by_cases h1:i<min off cells.length
 .rw[yAJ h1]at hu;rw[yAJ Ah]at hd;rw[yAv,yAJ Ah]at hu hd;exact hz.2 i u d hu hd
 .rw[yAI h1]at hu;rw[yAI Ah]at hd;rw[yDb]at hu hd;have hm:min off cells.length=off:=Ah;have hm':min off z.length=off:=Ah;rw[hm]at hu;rw[hm']at hd
  by_cases h2:i-off<p.cells.length
  .rw[yAJ Ah]at hu;rw[yAJ h2]at hd;exact hc.2 _ u d hu hd
  .rw[yAI Ah]at hu;rw[yAI h2]at hd;rw[yBn]at hu hd;rw[hl]at hu;exact hz.2 _ u d hu hd
theorem NU{cells:Ge}(h:∀v∈cells,v.oneCell'=true){new:Ge}(hn:∀v∈new,v.oneCell'=true)(off n:Nat):∀v∈cells.take off++new++cells.drop n,v.oneCell'=true:=by
 intro v hv;simp only[yBf]at hv;rcases hv with(h1|h1)|h1
 .exact h v (yAy h1)
 .exact hn v h1
 .exact h v (yBi h1)
theorem NX{place:Nat->Option (Nat×Nat)}:∀(parts:List (Nat×PD)) (vparts:List (Nat×Value)) (z:List PD) (cells:Array Value) (cs:List PD),
  vparts.length=parts.length->(∀(i:Nat) (jv:Nat×Value) (jp:Nat×PD),vparts[i]?=some jv->parts[i]?=some jp->jv.1=jp.1/\VR c jv.2 jp.2) ->
  aV c cells.toList z->(∀v∈cells.toList,v.oneCell'=true)->xQ place z parts=some cs ->
  ∃cells',Instr.fill place cells vparts=some cells'/\aV c cells'.toList cs/\∀v∈cells'.toList,v.oneCell'=true
 | [],[],z,cells,cs,_,_,hz,h1,h=>by simp[xQ]at h;subst h;exact⟨cells,rfl,hz,h1⟩
 | [],_::_,_,_,_,hl,_,_,_,_=>by simp at hl
 |_::_,[],_,_,_,hl,_,_,_,_=>by simp at hl
 |(i,p)::parts,(i',v)::vparts,z,cells,cs,hl,hp,hz,h1,h=>by
  obtain⟨e,hv⟩:=hp 0 (i',v) (i,p) rfl rfl;simp only at e hv;subst e;unfold xQ at h;unfold Instr.fill;cases hpl:place i' with
  |none=>simp[hpl]at h
  |some on=>
   obtain⟨off,n⟩:=on;simp only[hpl]at h ⊢;have hcl:v.cells.size=p.cells.length:=by have:=hv.cells.1;simpa using this
   have hzl:cells.size=z.length:=by have:=hz.1;simpa using this
   split at h
   .exact ak
   .rename_i hn;have xH:¬p.cells.length≠n:=λq=>hn (.inl q)
    have hn2:¬off+p.cells.length > z.length:=λq=>hn (.inr (.inl q))
    have hn3:p.cells.all PD.plain=true:=by
     cases hq:p.cells.all PD.plain with
     |true=>rfl
     |false=>exact(hn (.inr (.inr hq))).elim
    have rD:=aV.xT hv.cells hn3;have hcond:¬(decide (v.cells.size≠n)||decide (off+v.cells.size > cells.size))=true:=by
     rw[hcl,hzl];simp only[yBR,yCk]
     rintro(q|q)
     .exact xH q
     .exact hn2 q
    rw[yAI hcond];have hle:off+p.cells.length<=z.length:=Ah;have hfold:(v.cells.zipIdx.foldl (λcs (c,j)=>cs.setIfInBounds (off+j) c) cells).toList=cells.toList.take off++v.cells.toList++cells.toList.drop (off+v.cells.toList.length):=by
     rw[<-Array.foldl_toList,Array.toList_zipIdx];have:=aBN off v.cells.toList 0 cells Aw;exact cr
    refine NX parts vparts _ _ cs Cq (λi jv jp a b=>hp (i+1) jv jp Cy Cz) ?_ ?_ h
    .rw[hfold];exact TJ hz hv off hle
    .rw[hfold];exact NU h1 rD off _
theorem D3{t:TypeId}{p:PD}(h:eR P t=some p):∃v i,P.info? t=some i/\i.zero=some v/\VR c v p:=by
 unfold eR at h;split at h
 .rename_i i hi;split at h
  .rename_i z hz;exact⟨z,i,hi,hz,TI h⟩
  .exact ak
 .exact ak
theorem aBO:∀ {fs:List Field} {pl:List (Nat×Nat)},GD P fs=some pl->fs.mapM (λf=>(P.info? f.type).map λi=>(f.offset,i.size))=some pl
 | [],pl,h=>by simp[GD]at h;subst h;rfl
 |f::fs,pl,h=>by
  unfold GD at h;split at h
  .rename_i n ps hn hp;simp only[yAb]at h;subst h;obtain⟨i,hi,hs⟩:=NW hn;simp[List.mapM_cons,aBO hp,hi,hs]
  .exact ak
theorem aJl{t:TypeId}{parts:List (Nat×PD)}{vparts:List (Nat×Value)}{p:PD}(h:F7 P t parts=some p)(hl:vparts.length=parts.length)
  (hp:∀(i:Nat) (jv:Nat×Value) (jp:Nat×PD),vparts[i]?=some jv->parts[i]?=some jp->jv.1=jp.1/\VR c jv.2 jp.2) (w:World) :
  ∃v,(Instr.build t vparts.toArray).run P w=.ok v w/\VR c v p:=by
 unfold F7 at h;split at h
 .rename_i z hz;obtain⟨zv,i,hi,hzv,hzr⟩:=D3 (c:=c) hz;obtain⟨cs,rfl,hcs,dY⟩:=hzr.zT;split at h
  .rename_i fs hu;split at h
   .rename_i pl hpl;split at h
    .rename_i out ho;simp only[yAb]at h;subst h;obtain⟨cells',h1,h2,h3⟩:=NX parts vparts z cs.toArray out hl hp (by simpa using hcs) (by simpa using dY) ho;refine⟨.agg cells',run_build w t _ cells' ?_,?_⟩
     .simp only[Program.built,hi,hu,hzv,aBO hpl,Value.cells];simpa using h1
     .exact zi
    .exact ak
   .exact ak
  .rename_i k e hu;split at h
   .rename_i n hn;split at h
    .rename_i out ho;simp only[yAb]at h;subst h;obtain⟨cells',h1,h2,h3⟩:=NX parts vparts z cs.toArray out hl hp (by simpa using hcs) (by simpa using dY) ho;obtain⟨ie,hie,hsz⟩:=NW hn;subst hsz;refine⟨.agg cells',run_build w t _ cells' ?_,?_⟩
     .simp only[Program.built,hi,hu,hzv,hie,Value.cells];simpa using h1
     .exact zi
    .exact ak
   .exact ak
  .exact ak
 .exact ak
theorem NQ{a:Act}{fr:Gc}(hf:FR c a fr):∀ {parts:List (Nat×Operand)} {ps:List (Nat×PD)},p7 fr parts=some ps ->
  (parts.map λq=>(q.1,a.eval q.2)).length=ps.length/\∀(i:Nat) (jv:Nat×Value) (jp:Nat×PD),(parts.map λq=>(q.1,a.eval q.2))[i]?=some jv->ps[i]?=some jp->jv.1=jp.1/\VR c jv.2 jp.2
 | [],ps,h=>by simp[p7]at h;subst h;simp
 |(j,x)::parts,ps,h=>by
  unfold p7 at h;split at h
  .rename_i p qs h1 h2;simp only[yAb]at h;subst h;obtain⟨a1,a2⟩:=NQ hf h2;refine⟨by simpa using a1,λi jv jp hv hp=>?_⟩;cases i with
   |zero=>simp at hv hp;subst hv;subst hp;exact⟨rfl,eC hf h1⟩
   |succ i=>exact a2 i jv jp (by simpa using hv) Cs
  .exact ak
theorem TK(lt:Bool)(w:World):∀(vs:List Value) (x:PD) (r:List PD) (p:PD) (vx:Value),DS lt x r=some p->VR c vx x->aV c vs r ->
  ∃v,((vs.foldlM (if lt then Builtin.min2 else Builtin.max2) vx).run P w=.ok v w)/\VR c v p
 | [],x,[],p,vx,h,hx,_=>by
   unfold DS at h;split at h
   .simp only[yAb]at h;subst h;exact⟨vx,Ai,hx⟩
   .rename_i e;simp at e
   .exact ak
 | [],_,_::_,_,_,_,_,hl=>by have:=hl.1;simp at this
 |_::_,_,[],_,_,_,_,hl=>by have:=hl.1;simp at this
 |v::vs,x,y::r,p,vx,h,hx,hl=>by
  unfold DS at h;split at h
  .rename_i e;simp at e
  .rename_i k z k' z' r' e;simp at e;obtain⟨e1,e2⟩:=e;subst e1;subst e2;have hv:=hl.2 0 v _ rfl rfl;have h0:=hx.pL;have h1:=hv.pL;subst h0;subst h1;have htl:aV c vs r:=⟨by have:=hl.1;simpa using this,λi u d a b=>hl.2 (i+1) u d Cy Cz⟩;obtain⟨v,q1,q2⟩:=TK lt w vs _ r p _ h (VR.int _ _) htl;refine⟨v,?_,q2⟩;cases lt<;>simpa [List.foldlM_cons,Builtin.min2,Builtin.max2]using q1
  .exact ak
theorem aJm{b:Builtin}{ts:Array TypeId}{args:Gc}{vargs:Ge}{p:PD}(h:j5 P b ts args=some p)(ha:aV c vargs args)(ty:TypeId)(cs:Array Bool)(w:World) :
  ∃v,(builtin b ts ty cs vargs.toArray).run P w=.ok (.value v) w/\VR c v p:=by
 unfold j5 at h;split at h
 .split at h
  .rename_i t ht;split at h
   .rename_i s r hu;simp only[yAb]at h;subst h;obtain⟨v,hv,hr⟩:=ha.get (i:=0) (d:=.str s) rfl;rw[hr.sI]at hv;refine⟨.int .i64 s.length,?_,.int _ _⟩;simp[builtin,Builtin.len_,ht,hv,yAM hu,goInt,N1]
   .rename_i n e p0 r hu;simp only[yAb]at h;subst h;obtain⟨v,hv,hr⟩:=ha.get (i:=0) (d:=p0) rfl;exact jd
   .rename_i e sz xs tok r hu;simp only[yAb]at h;subst h;obtain⟨v,hv,hr⟩:=ha.get (i:=0) (d:=.slice sz xs tok) rfl;obtain⟨A,cap,fl,rfl,_⟩:=hr.oF;refine⟨.int .i64 xs.length,?_,.int _ _⟩;simp[builtin,Builtin.len_,ht,hv,yAM hu,goInt]
   .rename_i e id off n size r hu;simp only[yAb]at h;subst h;obtain⟨v,hv,hr⟩:=ha.get (i:=0) (d:=.dJ id off n size) rfl;obtain⟨b,cap,rfl,_⟩:=hr.D1;exact jd
   .rename_i e id ver off n size r hu;simp only[yAb]at h;subst h;obtain⟨v,hv,hr⟩:=ha.get (i:=0) (d:=.aR id ver off n size) rfl;obtain⟨b,cap,rfl,_⟩:=hr.BU;exact jd
   .exact ak
  .exact ak
 .split at h
  .rename_i x r;cases vargs with
   |nil=>have:=ha.1;simp at this
   |cons v vs=>
    have htl:aV c vs r:=⟨by have:=ha.1;simpa using this,λi u d a b=>ha.2 (i+1) u d Cy Cz⟩;obtain⟨v',q1,q2⟩:=TK (P:=P) true w vs x r p v h (ha.2 0 v x rfl rfl) htl;exact⟨v',by simp at q1;simp[builtin,Builtin.min_,q1],q2⟩
  .exact ak
 .split at h
  .rename_i x r;cases vargs with
   |nil=>have:=ha.1;simp at this
   |cons v vs=>
    have htl:aV c vs r:=⟨by have:=ha.1;simpa using this,λi u d a b=>ha.2 (i+1) u d Cy Cz⟩;obtain⟨v',q1,q2⟩:=TK (P:=P) false w vs x r p v h (ha.2 0 v x rfl rfl) htl;exact⟨v',by simp at q1;simp[builtin,Builtin.max_,q1],q2⟩
  .exact ak
 .split at h
  .rename_i t ht;split at h
   .rename_i e sz xs r hu;simp only[yAb]at h;subst h;obtain⟨v,hv,hr⟩:=ha.get (i:=0) (d:=.slice sz xs .full) rfl;obtain⟨A,cap,fl,rfl,a1,a2,a3,a4,a5,a6,a7,a8⟩:=hr.oF;have hc:xs.length=cap:=by simp only[rC]at a8;omega
    refine⟨.int .i64 xs.length,?_,.int _ _⟩;simp[builtin,Builtin.cap_,ht,hv,yAM hu,goInt,hc]
   .exact ak
  .exact ak
 .exact ak
end
end
section
section
variable{P:Program}{c:Cx}
theorem aV.append{c:Cx}{a b:Ge}{x y:Gc}(h:aV c a x)(k:aV c b y):aV c (a++b) (x++y):=by
 refine⟨by simp[h.1,k.1],λi v d hv hd=>?_⟩;rw[yDb]at hv hd
 by_cases h1:i<a.length
 .rw[yAJ h1]at hv;rw[yAJ (by rw[<-h.1];exact h1)]at hd;exact h.2 i v d hv hd
 .rw[yAI h1]at hv;rw[yAI (by rw[<-h.1];exact h1)]at hd;rw[<-h.1]at hd;exact k.2 _ v d hv hd
theorem aIE{a:Act}{fr:Gc}(hf:FR c a fr){o:Oper}{p:PD}(h:eK P fr o.op=some p)(w:World) :
  ∃v,(execOp a.eval o).run P w=.ok (.value v) w/\VR c v p:=by
 obtain⟨dst,op,ty,pos,after,guard⟩:=o;simp only at h;unfold eK at h;split at h
 .exact⟨_,by simp[execOp],eC hf h⟩
 .exact⟨_,by simp[execOp],eC hf h⟩
 .rename_i x y z;split at h
  .exact sw
  .exact sw
  .exact ak
 .rename_i bop t x y yt;split at h
  .rename_i pa pb h1 h2;have hc:∃v,(do eqGuard bop t x y (a.eval x) (a.eval y);binOp bop t (a.eval x) (a.eval y):Sem Value).run P w=.ok v w/\VR c v p:=by
    split at h
    .rename_i r hr;simp only[yAb]at h;subst h;exact aJb hr (eC hf h1) (eC hf h2) w x y
    .exact aJc h (eC hf h1) w x
   obtain⟨v,r,q⟩:=hc;refine⟨v,?_,q⟩;have e:execOp a.eval ⟨dst,.binOp bop t x y yt,ty,pos,after,guard⟩=((do eqGuard bop t x y (a.eval x) (a.eval y);binOp bop t (a.eval x) (a.eval y):Sem Value) >>= λz=>pure (.value z)):=rfl;rw[e,yAZ,r];rfl
  .exact ak
 .rename_i uop t x;split at h
  .rename_i pa h1;obtain⟨v,r,q⟩:=aJd (P:=P) h (eC hf h1) w;exact ia
  .exact ak
 .rename_i s d x;split at h
  .exact ak
  .split at h
   .rename_i pa h1;obtain⟨v,r,q⟩:=aJe h (eC hf h1) w;exact ia
   .exact ak
 .rename_i f first captured;split at h
  .rename_i h0;split at h
   .rename_i ps hps;simp only[yAb]at h;subst h;have hv:=sH hf hps;have e:first=#[]:=yEf h0;subst e;refine⟨.func (.func f) #[] (captured.toList.map a.eval).toArray,?_,.func f _ ps hv.1 hv.2⟩;have e2:captured.map a.eval=(captured.toList.map a.eval).toArray:=Cf;simp[execOp,Instr.makeFunc,e2]
   .exact ak
  .split at h
   .rename_i h0;split at h
    .rename_i ps hps;simp only[yAb]at h;subst h;have hv:=sH hf hps;have e:captured=#[]:=yEf h0;subst e;refine⟨.func (.func f) (first.toList.map a.eval).toArray #[],?_,.jT f _ ps hv.1 hv.2⟩;have e2:first.map a.eval=(first.toList.map a.eval).toArray:=Cf;simp[execOp,Instr.makeFunc,e2]
    .exact ak
   .exact ak
 .rename_i t x lo hi mx;split at h
  .rename_i pa h1;obtain⟨v,r,q⟩:=aJf hf h (eC hf h1) w;exact ia
  .exact ak
 .rename_i s x f;split at h
  .rename_i pa h1;obtain⟨v,r,q⟩:=aJg h (eC hf h1) w;exact ia
  .exact ak
 .rename_i t x f;split at h
  .rename_i pa h1;obtain⟨v,r,q⟩:=aJh h (eC hf h1) w;exact ia
  .exact ak
 .rename_i t x i;split at h
  .rename_i pa pb h1 h2;obtain⟨v,r,q⟩:=aJi h (eC hf h1) (eC hf h2) w;exact ia
  .exact ak
 .rename_i t x i;split at h
  .rename_i pa pb h1 h2;obtain⟨v,r,q⟩:=aJj h (eC hf h1) (eC hf h2) w;exact ia
  .exact ak
 .rename_i x i;split at h
  .rename_i vs h1;obtain⟨cs,e,hcs⟩:=(eC hf h1).aJk;obtain⟨v,hv,q⟩:=hcs.get h;exact⟨v,by simp[execOp,e,Instr.extract,hv],q⟩
  .exact ak
 .rename_i x;split at h
  .rename_i id off h1;simp only[yAb]at h;subst h;have hv:=eC hf h1;obtain⟨b,e,_⟩:=hv.tE;exact tq
  .rename_i cs off h1;simp only[yAb]at h;subst h;have hv:=eC hf h1;obtain⟨ad,fl,e,_⟩:=hv.GU;exact⟨.pointer (some (ad.add off)),by simp[execOp,e],by rw[<-e];exact hv⟩
  .rename_i id ver off h1;simp only[yAb]at h;subst h;have hv:=eC hf h1;obtain⟨b,e,_⟩:=hv.GN;exact tq
  .exact ak
 .rename_i t parts;split at h
  .rename_i ps h1;obtain⟨a1,a2⟩:=NQ hf h1;obtain⟨v,r,q⟩:=aJl h a1 a2 w;refine⟨v,?_,q⟩;have e:(parts.map fun(x:Nat×Operand)=>(x.1,a.eval x.2))=(parts.toList.map λq=>(q.1,a.eval q.2)).toArray:=Cf;simp only[execOp,yAZ];rw[show(Array.map (λx=>match x with|(i,x)=>(i,a.eval x)) parts)=(parts.toList.map λq=>(q.1,a.eval q.2)).toArray from by simpa using e,r];simp
  .exact ak
 .rename_i b args ts;split at h
  .rename_i ps h1;have hv:=sH hf h1;obtain⟨v,r,q⟩:=aJm h hv ty (args.map λ|.const _=>true|_=>false) w;refine⟨v,?_,q⟩;simp only[execOp,resolve,invoke,yAZ,yBm,yBk];rw[show args.map a.eval=(args.toList.map a.eval).toArray from by apply yCi;simp];exact r
  .exact ak
 .exact ak
end
end
section
open Go.RowKit
section
variable{c:Cx}{fl:Nat}
theorem gJ{w:World}{b:Nat}{o:Obj}(h:w.heap[b]?=some o):b<w.heap.size:=(yDF.1 h).1
theorem zQ{w:World}{a:Addr}{v:Value}(h:w.cell? a=some v):a.block<w.heap.size:=World.block_lt_of_cell? w a h
def Cx.at(c:Cx)(w:World):Cx:={ c with w:=w }
theorem Nx.grow{w':World}(_hs:Sr c)(h:c.w.grownBy w' none):Nx fl c (c.at w') where
 X:=rfl
 os:=h.os
 tape:=h.tape
 output:=h.output
 size:=h.size
 len:=yAk _
 cell:=λa v ha hv=>⟨ha,by
  show w'.cell? a=some v
  rw[yCH (h.block a.block (zQ hv) Ai)];exact hv⟩
 bG:=λ_ h=>h
 new:=λ_ h=>.inl h
 sG:=λ_ p _ h=>⟨rfl,p,h⟩
 nE:=λ_ _ h=>⟨rfl,h⟩
 tF:=λ_ _ _ n _ h=>⟨n,h,yAk _,λ_=>rfl⟩
 tH:=λ_ _ _ v cs _ h=>⟨v,cs,h,yAk _,λ_=>rfl⟩
 back:=λ_ _ h h' _=>⟨h,h'⟩
 frame:=λk hk _=>h.block k hk Ai
 ro:=λ_ _ _=>rfl
 hole:=λ_ _ _=>rfl
theorem BS{w w':World}{e:TypeId}{size n:Nat}{v:Value}{xs:Ge}(h:w.ownsRowF 0 e size v n xs)(hb:∀g,bA v=some g->w'.heap[g]?=w.heap[g]?):w'.ownsRowF 0 e size v n xs:=by
 refine⟨h.1,?_⟩;rcases h.2 with hn | ⟨g,cap,cur,fz,rfl,hb0,hg,rest⟩
 .exact .inl hn
 .exact .inr ⟨g,cap,cur,fz,rfl,hb0,by rw[hb g rfl];exact hg,rest⟩
theorem Sr.grow{w':World}(hs:Sr c)(h:c.w.grownBy w' none):Sr (c.at w') where
 box:=λid p hd hp=>by
  obtain⟨b,cs,T,e1,e2,e3,e4⟩:=hs.box id p hd hp;exact⟨b,cs,T,e1,by show w'.heap[b]?=_;rw[h.block b (gJ e2) Ai];exact e2,e3.mono (Nx.grow (fl:=0) hs h),e4⟩
 own:=λid e size n hd ho=>by
  obtain⟨xs,hx⟩:=hs.own id e size n hd ho;exact vh
 mark:=λid hd hm=>by
  obtain⟨b,e1,e2⟩:=hs.mark id hd hm;exact⟨b,e1,by show w'.heap[b]?=_;rw[h.block b (gJ e2) Ai];exact e2⟩
 row:=λid e sz ver ds hd ho=>by
  obtain⟨b,C,cur,e1,e2,e3,e4,e5,e6,e7,e8⟩:=hs.row id e sz ver ds hd ho;exact⟨b,C,cur,e1,by show w'.heap[b]?=_;rw[h.block b (gJ e2) Ai];exact e2,e3,e4,e5,e6,e7.mono (Nx.grow (fl:=0) hs h),e8⟩
 map:=λid es hd ho=>by
  obtain⟨b,ents,clock,e1,e2,e3,e4⟩:=hs.map id es hd ho;exact⟨b,ents,clock,e1,by show w'.heap[b]?=_;rw[h.block b (gJ e2) Ai];exact e2,e3.mono (Nx.grow (fl:=0) hs h),e4.mono (Nx.grow (fl:=0) hs h)⟩
 loop:=λid st fr ps asg bd hd hl=>by
  obtain⟨b,r,e1,e2,e3,e4,e5,e6,e7⟩:=hs.loop id st fr ps asg bd hd hl;exact⟨b,r,e1,by show w'.heap[b]?=_;rw[h.block b (gJ e2) Ai];exact e2,e3,e4,e5,e6.mono (Nx.grow (fl:=0) hs h),e7⟩
 inj:=hs.inj
 lt:=λid b hd hb=>yBT (hs.lt id b hd hb) h.size
 bG:=hs.bG
 fresh:=λa ha=>hs.fresh a (yAV h.size ha)
 jQ:=hs.jQ.mono (Nx.grow (fl:=0) hs h)
theorem grownBy_drew(w:World):w.grownBy w.drew none:=⟨rfl,rfl,rfl,yAk _,λ_ _ _=>rfl⟩
def Cx.push(c:Cx)(w:World)(v:Value)(o:aB):Cx:=
 { w:=w,ρ:=λi=>if i=c.σ.length then v else c.ρ i,σ:=c.σ++[o],D:=λi=>c.D i\/i=c.σ.length,X:=c.X }
theorem aI9{id:Nat}(hs:Sr c)(hd:c.D id):id≠c.σ.length:=Nat.ne_of_lt (hs.bG id hd)
theorem oX{w:World}{v:Value}{o:aB}{id:Nat}(hs:Sr c)(hd:c.D id):(c.push w v o).ρ id=c.ρ id:=by simp[Cx.push,aI9 hs hd]
theorem uQ{w:World}{v:Value}{o:aB}{id:Nat}(hs:Sr c)(hd:c.D id):(c.push w v o).σ[id]?=c.σ[id]?:=by
 simp[Cx.push,yAg (hs.bG id hd)]
theorem gV{w:World}{v:Value}{o:aB}:(c.push w v o).σ[c.σ.length]?=some o/\(c.push w v o).ρ c.σ.length=v/\(c.push w v o).D c.σ.length:=by simp[Cx.push]
theorem Nx.push{w':World}{v:Value}{o:aB}(hs:Sr c)(h:c.w.grownBy w' none)(hv:∀b,bA v=some b->c.w.heap.size<=b):Nx fl c (c.push w' v o) where
 X:=rfl
 os:=h.os
 tape:=h.tape
 output:=h.output
 size:=h.size
 len:=by simp[Cx.push]
 cell:=λa u ha hu=>by
  have hlt:=zQ hu;refine⟨⟨ha.1,λid o' hd ho=>?_⟩,by show w'.cell? a=some u;rw[yCH (h.block a.block hlt Ai)];exact hu⟩;rcases hd with hd|rfl
  .rw[uQ hs hd]at ho;rw[oX hs hd];exact ha.2 id o' hd ho
  .obtain⟨e1,e2,_⟩:=gV (c:=c) (w:=w') (v:=v) (o:=o);rw[e1]at ho;rw[e2];simp only[yAb]at ho;subst ho;cases o with
   |none=>trivial
   |box p=>intro b hb e;have:=hv b hb;omega
   |own e size n=>intro b hb e;have:=hv b hb;omega
   |row e size ver ds=>intro b hb e;have:=hv b hb;omega
   |map es=>trivial
   |mark=>trivial
   |loop st fr ps asg bd=>trivial
 bG:=λ_ h=>.inl h
 new:=λid hd=>by rcases hd with hd|rfl;exact .inl hd;exact .inr (yAk _)
 sG:=λid p hd hp=>⟨oX hs hd,p,by rw[uQ hs hd];exact hp⟩
 nE:=λid hd hn=>⟨oX hs hd,by rw[uQ hs hd];exact hn⟩
 tF:=λid e s n hd ho=>⟨n,by rw[uQ hs hd];exact ho,yAk _,λ_=>oX hs hd⟩
 tH:=λid e s v' cs hd ho=>⟨v',cs,by rw[uQ hs hd]at ho;exact ho,yAk _,λ_=>oX hs hd⟩
 back:=λid b hd hb hlt=>by
  rcases hd with hd|rfl
  .rw[oX hs hd]at hb;exact⟨hd,hb⟩
  .rw[(gV (c:=c) (w:=w') (v:=v) (o:=o)).2.1]at hb;have:=hv b hb;omega
 frame:=λk hk _=>h.block k hk Ai
 ro:=λid _ hl=>by simp[Cx.push,yAg hl]
 hole:=λid hl _=>by simp[Cx.push,yAg hl]
theorem Sr.push{w':World}{v:Value}{o:aB}(hs:Sr c)(h:c.w.grownBy w' none)(hv:∀b,bA v=some b->c.w.heap.size<=b/\b<w'.heap.size)
  (ho:match o with
   |.none=>True
   |.box p=>∃b cs T,v=.pointer (some ⟨b,0,none⟩)/\w'.heap[b]?=some (.cells cs T (0,0))/\aV c cs.toList p.cells/\(∀v∈cs.toList,v.oneCell'=true)/\∀t ds,p=.typed t ds->T=t
   |.own e size n=>∃xs,w'.ownsRowF 0 e size v n xs
   |.row e size _ ds=>∃b C cur,v=.slice (some ⟨b,0,none⟩) 0 C/\w'.heap[b]?=some (.cells cur e (0,0))/\cur.size=C*size/\C<=maxLen/\0<size /\
     ds.length<=cur.size/\aV c (cur.toList.take ds.length) ds/\∀v∈cur.toList,v.oneCell'=true
   |.map es=>∃b ents clock,v=.map (some b)/\w'.heap[b]?=some (.map ents clock)/\aV c (ents.toList.map MapEntry.key) (es.map Prod.fst)/\aV c (ents.toList.map MapEntry.val) (es.map Prod.snd)
   |.mark=>∃b,v=.pointer (some ⟨b,0,none⟩)/\w'.heap[b]?=some (.deferred (some []))
   |.loop st fr ps assign body=>∃b r,v=.pointer (some ⟨b,0,none⟩)/\w'.heap[b]?=some (.loop r)/\r.params=ps.toArray/\r.assign=assign/\r.body=body/\aV c r.tmps.toList fr/\st.fits r):Sr (c.push w' v o):=by
 have nx:Nx 0 c (c.push w' v o):=Nx.push hs h (λb hb=>(hv b hb).1);refine⟨?_,?_,?_,?_,?_,?_,?_,?_,?_,?_,hs.jQ.mono nx⟩
 .intro id p hd hp;rcases hd with hd|rfl
  .rw[uQ hs hd]at hp;obtain⟨b,cs,T,e1,e2,e3,e4⟩:=hs.box id p hd hp;exact⟨b,cs,T,(oX hs hd).trans e1,by show w'.heap[b]?=_;rw[h.block b (gJ e2) Ai];exact e2,e3.mono nx,e4⟩
  .rw[gV.1]at hp;simp only[yAb]at hp;subst hp;obtain⟨b,cs,T,e1,e2,e3,e4⟩:=ho;exact⟨b,cs,T,gV.2.1.trans e1,e2,e3.mono nx,e4⟩
 .intro id e size n hd hp;rcases hd with hd|rfl
  .rw[uQ hs hd]at hp;obtain⟨xs,hx⟩:=hs.own id e size n hd hp;rw[oX hs hd];exact vh
  .rw[gV.1]at hp;simp only[yAb]at hp;subst hp;rw[gV.2.1];exact ho
 .intro id e size ver ds hd hp;rcases hd with hd|rfl
  .rw[uQ hs hd]at hp;obtain⟨b,C,cur,e1,e2,e3,e4,e5,e6,e7,e8⟩:=hs.row id e size ver ds hd hp;exact⟨b,C,cur,(oX hs hd).trans e1,by show w'.heap[b]?=_;rw[h.block b (gJ e2) Ai];exact e2,e3,e4,e5,e6,e7.mono nx,e8⟩
  .rw[gV.1]at hp;simp only[yAb]at hp;subst hp;obtain⟨b,C,cur,e1,e2,e3,e4,e5,e6,e7,e8⟩:=ho;exact⟨b,C,cur,gV.2.1.trans e1,e2,e3,e4,e5,e6,e7.mono nx,e8⟩
 .intro id es hd hp;rcases hd with hd|rfl
  .rw[uQ hs hd]at hp;obtain⟨b,ents,clock,e1,e2,e3,e4⟩:=hs.map id es hd hp;exact⟨b,ents,clock,(oX hs hd).trans e1,by show w'.heap[b]?=_;rw[h.block b (gJ e2) Ai];exact e2,e3.mono nx,e4.mono nx⟩
  .rw[gV.1]at hp;simp only[yAb]at hp;subst hp;obtain⟨b,ents,clock,e1,e2,e3,e4⟩:=ho;exact⟨b,ents,clock,gV.2.1.trans e1,e2,e3.mono nx,e4.mono nx⟩
 .intro id hd hm;rcases hd with hd|rfl
  .rw[uQ hs hd]at hm;obtain⟨b,e1,e2⟩:=hs.mark id hd hm;exact⟨b,(oX hs hd).trans e1,by show w'.heap[b]?=_;rw[h.block b (gJ e2) Ai];exact e2⟩
  .rw[gV.1]at hm;simp only[yAb]at hm;subst hm;obtain⟨b,e1,e2⟩:=ho;exact⟨b,gV.2.1.trans e1,e2⟩
 .intro id st fr ps asg bd hd hm;rcases hd with hd|rfl
  .rw[uQ hs hd]at hm;obtain⟨b,r,e1,e2,e3,e4,e5,e6,e7⟩:=hs.loop id st fr ps asg bd hd hm;exact⟨b,r,(oX hs hd).trans e1,by show w'.heap[b]?=_;rw[h.block b (gJ e2) Ai];exact e2,e3,e4,e5,e6.mono nx,e7⟩
  .rw[gV.1]at hm;simp only[yAb]at hm;subst hm;obtain⟨b,r,e1,e2,e3,e4,e5,e6,e7⟩:=ho;exact⟨b,r,gV.2.1.trans e1,e2,e3,e4,e5,e6.mono nx,e7⟩
 .intro id id' b hd hd' hne hb hb';rcases hd with hd|rfl
  .rw[oX hs hd]at hb;rcases hd' with hd' | rfl
   .rw[oX hs hd']at hb';exact hs.inj id id' b hd hd' hne hb hb'
   .rw[gV.2.1]at hb';have:=(hv b hb').1;have:=hs.lt id b hd hb;omega
  .rw[gV.2.1]at hb;rcases hd' with hd' | rfl
   .rw[oX hs hd']at hb';have:=(hv b hb).1;have:=hs.lt id' b hd' hb';omega
   .exact hne rfl
 .intro id b hd hb;rcases hd with hd|rfl
  .rw[oX hs hd]at hb;exact yBT (hs.lt id b hd hb) h.size
  .rw[gV.2.1]at hb;exact(hv b hb).2
 .intro id hd;rcases hd with hd|rfl
  .have:=hs.bG id hd;simp[Cx.push];omega
  .simp[Cx.push]
 .exact λa ha=>hs.fresh a (yAV h.size ha)
def Cx.put(c:Cx)(w:World)(id:Nat)(v:Value)(o:aB):Cx:=
 { c with w:=w,ρ:=λi=>if i=id then v else c.ρ i,σ:=c.σ.set id o }
theorem dU{w:World}{v:Value}{o:aB}{id i:Nat}(h:i≠id):(c.put w id v o).σ[i]?=c.σ[i]?:=by simp[Cx.put,yAd (yAW h)]
theorem gA{w:World}{v:Value}{o:aB}{id i:Nat}(h:i≠id):(c.put w id v o).ρ i=c.ρ i:=by simp[Cx.put,h]
theorem fC{w:World}{v:Value}{o:aB}{id:Nat}(h:id<c.σ.length):(c.put w id v o).σ[id]?=some o:=by simp[Cx.put,h]
theorem mQ{w:World}{v:Value}{o:aB}{id:Nat}:(c.put w id v o).ρ id=v:=DH
theorem Nx.GV{w':World}{id b:Nat}{q q':PD}(hs:Sr c)(hd:c.D id)(hq:c.σ[id]?=some (.box q))(hr:c.ρ id=.pointer (some ⟨b,0,none⟩))(hfl:fl<=id)
  (h0:w'.os=c.w.os/\w'.tape=c.w.tape/\w'.output=c.w.output/\w'.heap.size=c.w.heap.size) (h1:∀k,k≠b->w'.heap[k]?=c.w.heap[k]?) :
  Nx fl c (c.put w' id (c.ρ id) (.box q')):=by
 have hρ:∀i,(c.put w' id (c.ρ id) (.box q')).ρ i=c.ρ i:=λi=>by
  exact jo
 have hb:bA (c.ρ id)=some b:=Cb;refine⟨rfl,h0.1,h0.2.1,h0.2.2.1,Nat.le_of_eq h0.2.2.2.symm,DH,?_,λ_ h=>h,λ_ h=>.inl h,?_,?_,?_,?_,?_,?_,?_,λi _ hi=>dU (λe=>hi Fc)⟩
 .intro a u ha hu;have hne:a.block≠b:=ha.2 id _ hd hq b hb;refine⟨⟨ha.1,λi o hi ho=>?_⟩,by show w'.cell? a=some u;rw[yCH (h1 a.block hne)];exact hu⟩;rw[hρ]
  by_cases e:i=id
  .subst e;rw[fC (hs.bG i hd)]at ho;simp only[yAb]at ho;subst ho;exact λb' hb'=>ha.2 i _ hd hq b' hb'
  .rw[dU e]at ho;exact ha.2 i o hi ho
 .intro i p hi hp;refine⟨hρ i,?_⟩
  by_cases e:i=id
  .subst e;exact⟨q',fC (hs.bG i hd)⟩
  .exact⟨p,by rw[dU e];exact hp⟩
 .intro i hi hn;refine⟨hρ i,?_⟩
  by_cases e:i=id
  .subst e;rw[fC (hs.bG i hd)];trivial
  .rw[dU e];exact hn
 .intro i e' s n hi ho;have e:i≠id:=by rintro rfl;rw[hq]at ho;cases ho
  exact⟨n,by rw[dU e];exact ho,yAk _,λ_=>hρ i⟩
 .intro i e' s v cs hi ho;have e:i≠id:=Bc;exact⟨v,cs,by rw[dU e]at ho;exact ho,yAk _,λ_=>hρ i⟩
 .intro i b' hi hb' _;rw[hρ]at hb';exact⟨hi,hb'⟩
 .intro k _ hk;exact h1 k (λe=>hk id hd hfl (by rw[e];exact hb))
 .exact pq
theorem Sr.GV{w':World}{id b:Nat}{q q':PD}{cs:Gf}{T:TypeId}(hs:Sr c)(hd:c.D id)(hq:c.σ[id]?=some (.box q))(hr:c.ρ id=.pointer (some ⟨b,0,none⟩))
  (h0:w'.os=c.w.os/\w'.tape=c.w.tape/\w'.output=c.w.output/\w'.heap.size=c.w.heap.size) (h1:∀k,k≠b->w'.heap[k]?=c.w.heap[k]?)
  (h2:w'.heap[b]?=some (.cells cs T (0,0))) (h3:aV c cs.toList q'.cells) (h4:(∀v∈cs.toList,v.oneCell'=true)/\∀t ds,q'=.typed t ds->T=t):Sr (c.put w' id (c.ρ id) (.box q')):=by
 have nx:Nx 0 c (c.put w' id (c.ρ id) (.box q')):=Nx.GV hs hd hq hr (yAF _) h0 h1;have hρ:∀i,(c.put w' id (c.ρ id) (.box q')).ρ i=c.ρ i:=λi=>by
  exact jo
 have hb:bA (c.ρ id)=some b:=Cb;refine⟨?_,?_,?_,?_,?_,?_,?_,?_,?_,?_,hs.jQ.mono nx⟩
 .intro i p hi hp
  by_cases e:i=id
  .subst e;rw[fC (hs.bG i hd)]at hp;simp only[yAb,aB.box.injEq]at hp;subst hp;exact⟨b,cs,T,(hρ i).trans hr,h2,h3.mono nx,h4⟩
  .rw[dU e]at hp;obtain⟨b',cs',T',e1,e2,e3,e4⟩:=hs.box i p hi hp;refine⟨b',cs',T',(hρ i).trans e1,?_,e3.mono nx,e4⟩;exact di
 .intro i e' s n hi ho;have e:i≠id:=Bc;rw[dU e]at ho;obtain⟨xs,hx⟩:=hs.own i e' s n hi ho;rw[hρ];exact⟨xs,BS hx (λg hg=>h1 g (λe''=>hs.inj i id g hi hd e hg (by rw[e''];exact hb)))⟩
 .intro i e' size ver ds hi ho;have e:i≠id:=Bc;rw[dU e]at ho;obtain⟨b',C,cur,e1,e2,e3,e4,e5,e6,e7,e8⟩:=hs.row i e' size ver ds hi ho;refine⟨b',C,cur,(hρ i).trans e1,?_,e3,e4,e5,e6,e7.mono nx,e8⟩;exact di
 .intro i es hi ho;have e:i≠id:=Bc;rw[dU e]at ho;obtain⟨b',ents,clock,e1,e2,e3,e4⟩:=hs.map i es hi ho;refine⟨b',ents,clock,(hρ i).trans e1,?_,e3.mono nx,e4.mono nx⟩;exact di
 .intro i hi hm;have e:i≠id:=Fu;rw[dU e]at hm;obtain⟨b',e1,e2⟩:=hs.mark i hi hm;refine⟨b',(hρ i).trans e1,?_⟩;exact di
 .intro i st fr ps asg bd hi hm;have e:i≠id:=Fu;rw[dU e]at hm;obtain⟨b',r,e1,e2,e3,e4,e5,e6,e7⟩:=hs.loop i st fr ps asg bd hi hm;refine⟨b',r,(hρ i).trans e1,?_,e3,e4,e5,e6.mono nx,e7⟩;exact di
 .exact td
 .intro i b' hi h5;rw[hρ]at h5;show b'<w'.heap.size
  rw[h0.2.2.2];exact hs.lt i b' hi h5
 .exact jm
 .intro a ha;exact hs.fresh a (by show c.w.heap.size<=a.block;rw[<-h0.2.2.2];exact ha)
theorem Nx.JW{w':World}{id n n' size:Nat}{e:TypeId}{v':Value}(hs:Sr c)(hd:c.D id)(hq:c.σ[id]?=some (.own e size n))(hfl:fl<=id)(hn:n<n')
  (h0:w'.os=c.w.os/\w'.tape=c.w.tape/\w'.output=c.w.output/\c.w.heap.size<=w'.heap.size)
  (h1:∀k,k<c.w.heap.size->bA (c.ρ id)≠some k->w'.heap[k]?=c.w.heap[k]?)
  (h2:∀(a:Addr) (u:Value),(∀b,bA (c.ρ id)=some b->a.block=b->a.off<n*size)->c.w.cell? a=some u->w'.cell? a=some u)
  (h3:bA v'=bA (c.ρ id)\/∀b,bA v'=some b->c.w.heap.size<=b) :
  Nx fl c (c.put w' id v' (.own e size n')):=by
 refine⟨rfl,h0.1,h0.2.1,h0.2.2.1,h0.2.2.2,DH,?_,λ_ h=>h,λ_ h=>.inl h,?_,?_,?_,?_,?_,?_,?_,λi _ hi=>dU (λe=>hi Fc)⟩
 .intro a u ha hu;have hav:∀b,bA (c.ρ id)=some b->a.block=b->a.off<n*size:=ha.2 id _ hd hq;refine⟨⟨ha.1,λi o hi ho=>?_⟩,h2 a u hav hu⟩
  by_cases e':i=id
  .subst e';rw[fC (hs.bG i hd)]at ho;simp only[yAb]at ho;subst ho;rw[mQ];intro b hb hab;rcases h3 with h3|h3
   .have:=hav b (by rw[<-h3];exact hb) hab;exact yBT this (yBO _ (yCx hn))
   .have:=h3 b hb;have:=zQ hu;omega
  .rw[dU e']at ho;rw[gA e'];exact ha.2 i o hi ho
 .exact nj
 .exact oe
 .intro i e0 s m hi ho
  by_cases e':i=id
  .subst e';rw[hq]at ho;simp only[yAb,aB.own.injEq]at ho;obtain⟨rfl,rfl,rfl⟩:=ho;exact⟨n',fC (hs.bG i hd),yCx hn,λh=>Ah⟩
  .exact⟨m,by rw[dU e'];exact ho,yAk _,λ_=>gA e'⟩
 .intro i e0 s v cs hi ho;have e':i≠id:=Bc;exact⟨v,cs,by rw[dU e']at ho;exact ho,yAk _,λ_=>gA e'⟩
 .exact iz
 .intro k hk hx;exact h1 k hk (hx id hd hfl)
 .exact pq
theorem Sr.JW{w':World}{id n n' size:Nat}{e:TypeId}{v':Value}{xs:Ge}(hs:Sr c)(hd:c.D id)(hq:c.σ[id]?=some (.own e size n))(hn:n<n')
  (h0:w'.os=c.w.os/\w'.tape=c.w.tape/\w'.output=c.w.output/\c.w.heap.size<=w'.heap.size)
  (h1:∀k,k<c.w.heap.size->bA (c.ρ id)≠some k->w'.heap[k]?=c.w.heap[k]?)
  (h2:∀(a:Addr) (u:Value),(∀b,bA (c.ρ id)=some b->a.block=b->a.off<n*size)->c.w.cell? a=some u->w'.cell? a=some u)
  (h3:bA v'=bA (c.ρ id)\/∀b,bA v'=some b->c.w.heap.size<=b) (h4:w'.ownsRowF 0 e size v' n' xs) (h5:∀b,bA v'=some b->b<w'.heap.size) :
  Sr (c.put w' id v' (.own e size n')):=by
 have nx:Nx 0 c (c.put w' id v' (.own e size n')):=Nx.JW hs hd hq (yAF _) hn h0 h1 h2 h3;have hoth:∀i b,c.D i->i≠id->bA (c.ρ i)=some b->bA v'≠some b:=λi b hi hne hb hb'=>by
  exact lf
 refine⟨?_,?_,?_,?_,?_,?_,?_,?_,?_,?_,hs.jQ.mono nx⟩
 .exact xm
 .intro i e0 s m hi ho
  by_cases e':i=id
  .subst e';rw[fC (hs.bG i hd)]at ho;simp only[yAb,aB.own.injEq]at ho;obtain⟨rfl,rfl,rfl⟩:=ho;rw[mQ];exact⟨xs,h4⟩
  .rw[dU e']at ho;obtain⟨ys,hy⟩:=hs.own i e0 s m hi ho;rw[gA e'];exact⟨ys,BS hy (λg hg=>h1 g (hs.lt i g hi hg) (λh=>hs.inj i id g hi hd e' hg h))⟩
 .intro i e0 size' ver ds hi ho;have e':i≠id:=Bc;rw[dU e']at ho;obtain⟨b',C,cur,e1,e2,e3,e4,e5,e6,e7,e8⟩:=hs.row i e0 size' ver ds hi ho;exact yz
 .exact xj
 .exact xp
 .exact xg
 .exact ez
 .exact me
 .exact jm
 .intro a ha;exact hs.fresh a (yAV h0.2.2.2 ha)
def aB.nc:aB->Prop
 |.box _=>False
 |.own _ _ _=>False
 |.row _ _ _ _=>False
 |_=>True
theorem Nx.uR{id b:Nat}{o o':aB}{x x':Obj}(hs:Sr c)(hd:c.D id)(ho:c.σ[id]?=some o)(hn:o.nc)(hn':o'.nc)(hb:bA (c.ρ id)=some b)(hfl:fl<=id)
  (hx:c.w.heap[b]?=some x) (hxc:∀cs T fz,x≠.cells cs T fz) :
  Nx fl c (c.put (c.w.putObj b x') id (c.ρ id) o'):=by
 have hρ:∀i,(c.put (c.w.putObj b x') id (c.ρ id) o').ρ i=c.ρ i:=λi=>by
  exact jo
 refine⟨rfl,rfl,rfl,rfl,DH,DH,?_,λ_ h=>h,λ_ h=>.inl h,?_,?_,?_,?_,?_,?_,?_,λi _ hi=>dU (λe=>hi Fc)⟩
 .intro a u ha hu;have hne:a.block≠b:=by
   intro e;unfold World.cell? at hu;rw[e,hx]at hu;cases x<;>first|exact hxc _ _ _ rfl|(simp at hu)
  refine⟨⟨ha.1,λi oo hi hoo=>?_⟩,by show(c.w.putObj b x').cell? a=some u;rw[yCH (yCL hne)];exact hu⟩;rw[hρ]
  by_cases e:i=id
  .subst e;rw[fC (hs.bG i hd)]at hoo;simp only[yAb]at hoo;subst hoo;cases o'<;>first|exact hn'.elim|trivial
  .rw[dU e]at hoo;exact ha.2 i oo hi hoo
 .intro i p hi hp;have e:i≠id:=by rintro rfl;rw[ho]at hp;simp only[yAb]at hp;subst hp;exact hn
  exact⟨hρ i,p,by rw[dU e];exact hp⟩
 .intro i hi hni;refine⟨hρ i,?_⟩
  by_cases e:i=id
  .subst e;rw[fC (hs.bG i hd)];cases o'<;>first|exact hn'.elim|trivial
  .rw[dU e];exact hni
 .intro i e0 s n hi hi';have e:i≠id:=by rintro rfl;rw[ho]at hi';simp only[yAb]at hi';subst hi';exact hn
  exact⟨n,by rw[dU e];exact hi',yAk _,λ_=>hρ i⟩
 .intro i e0 s v cs hi hi';have e:i≠id:=by rintro rfl;rw[fC (hs.bG i hd)]at hi';simp only[yAb]at hi';subst hi';exact hn'
  exact⟨v,cs,by rw[dU e]at hi';exact hi',yAk _,λ_=>hρ i⟩
 .intro i b' hi hb' _;rw[hρ]at hb';exact⟨hi,hb'⟩
 .intro k _ hk;exact yCL (λe=>hk id hd hfl (by rw[e];exact hb))
 .exact pq
theorem Sr.uR{id b:Nat}{o o':aB}{x x':Obj}(hs:Sr c)(hd:c.D id)(ho:c.σ[id]?=some o)(hn:o.nc)(hn':o'.nc)(hb:bA (c.ρ id)=some b)
  (hx:c.w.heap[b]?=some x) (hxc:∀cs T fz,x≠.cells cs T fz)
  (hfit:match o' with
   |.mark=>x'=.deferred (some [])/\c.ρ id=.pointer (some ⟨b,0,none⟩)
   |.map es=>(∃ents clock,x'=.map ents clock/\aV c (ents.toList.map MapEntry.key) (es.map Prod.fst)/\aV c (ents.toList.map MapEntry.val) (es.map Prod.snd))/\c.ρ id=.map (some b)
   |.loop st fr ps assign body=>c.ρ id=.pointer (some ⟨b,0,none⟩)/\∃r,x'=.loop r/\r.params=ps.toArray/\r.assign=assign/\r.body=body/\aV c r.tmps.toList fr/\st.fits r
   |_=>True):Sr (c.put (c.w.putObj b x') id (c.ρ id) o'):=by
 have nx:Nx 0 c (c.put (c.w.putObj b x') id (c.ρ id) o'):=Nx.uR hs hd ho hn hn' hb (yAF _) hx hxc;have hρ:∀i,(c.put (c.w.putObj b x') id (c.ρ id) o').ρ i=c.ρ i:=λi=>by
  exact jo
 have hlt:b<c.w.heap.size:=gJ hx;have hnew:(c.w.putObj b x').heap[b]?=some x':=World.putObj_heap_same hlt;refine⟨?_,?_,?_,?_,?_,?_,?_,?_,?_,?_,hs.jQ.mono nx⟩
 .intro i p hi hp;have e:i≠id:=by
   rintro rfl
   rw[fC (hs.bG i hd)]at hp;simp only[yAb]at hp;subst hp;exact hn'
  rw[dU e]at hp;obtain⟨b',cs',T',e1,e2,e3,e4⟩:=hs.box i p hi hp;refine⟨b',cs',T',(hρ i).trans e1,?_,e3.mono nx,e4⟩;exact cv
 .intro i e0 s n hi hi';have e:i≠id:=by
   exact sy
  rw[dU e]at hi';obtain⟨xs,hx'⟩:=hs.own i e0 s n hi hi';rw[hρ];exact⟨xs,BS hx' (λg hg=>yCL (λe''=>hs.inj i id g hi hd e hg (by rw[e''];exact hb)))⟩
 .intro i e0 size ver ds hi hi';have e:i≠id:=by
   exact sy
  rw[dU e]at hi';obtain⟨b',C,cur,e1,e2,e3,e4,e5,e6,e7,e8⟩:=hs.row i e0 size ver ds hi hi';refine⟨b',C,cur,(hρ i).trans e1,?_,e3,e4,e5,e6,e7.mono nx,e8⟩;exact cv
 .intro i es hi hm
  by_cases e:i=id
  .subst e;rw[fC (hs.bG i hd)]at hm;simp only[yAb]at hm;subst hm;obtain⟨⟨ents,clock,e2,e3,e4⟩,e1⟩:=hfit;subst e2;exact⟨b,ents,clock,(hρ i).trans e1,hnew,e3.mono nx,e4.mono nx⟩
  .rw[dU e]at hm;obtain⟨b',ents,clock,e1,e2,e3,e4⟩:=hs.map i es hi hm;refine⟨b',ents,clock,(hρ i).trans e1,?_,e3.mono nx,e4.mono nx⟩;exact cv
 .intro i hi hm
  by_cases e:i=id
  .subst e;rw[fC (hs.bG i hd)]at hm;simp only[yAb]at hm;subst hm;obtain⟨hfit,hr⟩:=hfit;subst hfit;exact⟨b,(hρ i).trans hr,hnew⟩
  .rw[dU e]at hm;obtain⟨b',e1,e2⟩:=hs.mark i hi hm;refine⟨b',(hρ i).trans e1,?_⟩;exact cv
 .intro i st fr ps asg bd hi hm
  by_cases e:i=id
  .subst e;rw[fC (hs.bG i hd)]at hm;simp only[yAb]at hm;subst hm;obtain⟨hr,r,e2,e3,e4,e5,e6,e7⟩:=hfit;subst e2;exact⟨b,r,(hρ i).trans hr,hnew,e3,e4,e5,e6.mono nx,e7⟩
  .rw[dU e]at hm;obtain⟨b',r,e1,e2,e3,e4,e5,e6,e7⟩:=hs.loop i st fr ps asg bd hi hm;refine⟨b',r,(hρ i).trans e1,?_,e3,e4,e5,e6.mono nx,e7⟩;exact cv
 .exact td
 .intro i b' hi h5;rw[hρ]at h5;show b'<(c.w.putObj b x').heap.size
  simpa using hs.lt i b' hi h5
 .exact jm
 .intro a ha;exact hs.fresh a (by simpa [Cx.put]using ha)
theorem Nx.putRow{w':World}{id size ver fO:Nat}{e:TypeId}{v':Value}{ds ds':Gc}(hs:Sr c)(hd:c.D id)(hq:c.σ[id]?=some (.row e size ver ds))(hfl:fl<=id)(hver:ver<=fO)(hsame:ver=fO->v'=c.ρ id)
  (h0:w'.os=c.w.os/\w'.tape=c.w.tape/\w'.output=c.w.output/\c.w.heap.size<=w'.heap.size)
  (h1:∀k,k<c.w.heap.size->bA (c.ρ id)≠some k->w'.heap[k]?=c.w.heap[k]?)
  (h3:bA v'=bA (c.ρ id)\/∀b,bA v'=some b->c.w.heap.size<=b) :
  Nx fl c (c.put w' id v' (.row e size fO ds')):=by
 refine⟨rfl,h0.1,h0.2.1,h0.2.2.1,h0.2.2.2,DH,?_,λ_ h=>h,λ_ h=>.inl h,?_,?_,?_,?_,?_,?_,?_,λi _ hi=>dU (λe=>hi Fc)⟩
 .intro a u ha hu;have hne:∀b,bA (c.ρ id)=some b->a.block≠b:=ha.2 id _ hd hq;refine⟨⟨ha.1,λi o hi ho=>?_⟩,by
   show w'.cell? a=some u
   rw[yCH (h1 a.block (zQ hu) (λh=>hne _ h rfl))];exact hu⟩
  by_cases e':i=id
  .subst e';rw[fC (hs.bG i hd)]at ho;simp only[yAb]at ho;subst ho;rw[mQ];intro b hb hab;rcases h3 with h3|h3
   .exact hne b (by rw[<-h3];exact hb) hab
   .have:=h3 b hb;have:=zQ hu;omega
  .rw[dU e']at ho;rw[gA e'];exact ha.2 i o hi ho
 .exact nj
 .exact oe
 .intro i e0 s m hi ho;have e':i≠id:=by rintro rfl;rw[hq]at ho;cases ho
  exact⟨m,by rw[dU e'];exact ho,yAk _,λ_=>gA e'⟩
 .intro i e0 s v cs hi ho
  by_cases e':i=id
  .subst e';rw[fC (hs.bG i hd)]at ho;simp only[yAb,aB.row.injEq]at ho;obtain⟨rfl,rfl,rfl,rfl⟩:=ho;exact⟨ver,ds,hq,hver,λh=>by rw[mQ];exact hsame h⟩
  .exact⟨v,cs,by rw[dU e']at ho;exact ho,yAk _,λ_=>gA e'⟩
 .exact iz
 .intro k hk hx;exact h1 k hk (hx id hd hfl)
 .exact pq
theorem Sr.putRow{w':World}{id size ver fO:Nat}{e:TypeId}{v':Value}{ds ds':Gc}(hs:Sr c)(hd:c.D id)(hq:c.σ[id]?=some (.row e size ver ds))(hver:ver<=fO)(hsame:ver=fO->v'=c.ρ id)
  (h0:w'.os=c.w.os/\w'.tape=c.w.tape/\w'.output=c.w.output/\c.w.heap.size<=w'.heap.size)
  (h1:∀k,k<c.w.heap.size->bA (c.ρ id)≠some k->w'.heap[k]?=c.w.heap[k]?)
  (h3:bA v'=bA (c.ρ id)\/∀b,bA v'=some b->c.w.heap.size<=b)
  (h4:∃b C cur,v'=.slice (some ⟨b,0,none⟩) 0 C/\w'.heap[b]?=some (.cells cur e (0,0))/\cur.size=C*size/\C<=maxLen/\0<size/\ds'.length<=cur.size/\aV c (cur.toList.take ds'.length) ds'/\∀v∈cur.toList,v.oneCell'=true) :
  Sr (c.put w' id v' (.row e size fO ds')):=by
 have nx:Nx 0 c (c.put w' id v' (.row e size fO ds')):=Nx.putRow hs hd hq (yAF _) hver hsame h0 h1 h3;have h5:∀b,bA v'=some b->b<w'.heap.size:=λb hb=>by
  obtain⟨b',C,cur,rfl,h6,_⟩:=h4;simp only[bA,yAb]at hb;subst hb;exact gJ h6
 have hoth:∀i b,c.D i->i≠id->bA (c.ρ i)=some b->bA v'≠some b:=λi b hi hne hb hb'=>by
  exact lf
 refine⟨?_,?_,?_,?_,?_,?_,?_,?_,?_,?_,hs.jQ.mono nx⟩
 .exact xm
 .intro i e0 s n hi ho;have e':i≠id:=Bc;rw[dU e']at ho;obtain⟨xs,hx⟩:=hs.own i e0 s n hi ho;rw[gA e'];exact⟨xs,BS hx (λg hg=>h1 g (hs.lt i g hi hg) (λh=>hs.inj i id g hi hd e' hg h))⟩
 .intro i e0 size' aJa ds0 hi ho
  by_cases e':i=id
  .subst e';rw[fC (hs.bG i hd)]at ho;simp only[yAb,aB.row.injEq]at ho;obtain⟨rfl,rfl,rfl,rfl⟩:=ho;obtain⟨b',C,cur,e1,e2,e3,e4,e5,e6,e7,e8⟩:=h4;exact⟨b',C,cur,mQ.trans e1,e2,e3,e4,e5,e6,e7.mono nx,e8⟩
  .rw[dU e']at ho;obtain⟨b',C,cur,e1,e2,e3,e4,e5,e6,e7,e8⟩:=hs.row i e0 size' aJa ds0 hi ho;exact yz
 .exact xj
 .exact xp
 .exact xg
 .exact ez
 .exact me
 .exact jm
 .intro a ha;exact hs.fresh a (yAV h0.2.2.2 ha)
end
end
section
open Go.RowKit
section
variable{P:Program}{c:Cx}{fl:Nat}
theorem tJ(b off j:Nat):(⟨b,off,none⟩:Addr).add j=⟨b,off+j,none⟩:=Av
theorem aI8{α:Type}(l vs:List α)(off dl:Nat)(h1:off+vs.length<=dl)(h2:dl<=l.length) :
  (l.take off++vs++l.drop (off+vs.length)).take dl=(l.take dl).take off++vs++(l.take dl).drop (off+vs.length):=by
 have e1:(l.take dl).take off=l.take off:=by rw[yCj];congr 1;omega
 have e2:(l.take off++vs).length=off+vs.length:=Aw;rw[e1,List.take_append,e2,yAz (by rw[e2];omega),yDw]
theorem aV.fill{cells vs:Ge}{z ws:Gc}(hz:aV c cells z)(hv:aV c vs ws)(h1:∀v∈vs,v.oneCell'=true)(off:Nat)(hle:off+ws.length<=z.length) :
  aV c (cells.take off++vs++cells.drop (off+vs.length)) (dG z off ws):=by
 have:=TJ hz (v:=.agg vs.toArray) (p:=.agg ws) (.agg vs ws hv.1 h1 hv.2) off hle;simpa [Value.cells,PD.cells]using this
theorem aBy(hs:Sr c){id e size ver:Nat}{ds:Gc}(hd:c.D id)(hq:c.σ[id]?=some (.row e size ver ds)){b C:Nat}(hr:c.ρ id=.slice (some ⟨b,0,none⟩) 0 C){vs:Ge}{ws:Gc}(hv:aV c vs ws)
  (h1:∀v∈vs,v.oneCell'=true) {off:Nat} (hle:off+ws.length<=ds.length) (hfl:fl<=id) :
  ∃w',(storeCells ⟨b,off,none⟩ vs).run P c.w=.ok () w'/\Sr (c.put w' id (c.ρ id) (.row e size ver (dG ds off ws)))/\Nx fl c (c.put w' id (c.ρ id) (.row e size ver (dG ds off ws))):=by
 obtain⟨b',C',cur,e1,e2,e3,e4,e5,e6,e7,e8⟩:=hs.row id e size ver ds hd hq;rw[hr]at e1;simp only[yBN,yAb,yBG,yBl,yCp]at e1;obtain⟨rfl,rfl⟩:=e1;have hvl:vs.length=ws.length:=hv.1;have hst:=yCZ (P:=P) b off e vs 0 cur c.w e2 Ah h1;simp only[yBo]at hst;refine⟨_,hst,?_,?_⟩
 .refine Sr.putRow hs hd hq (yAk _) (λ_=>rfl) ⟨rfl,rfl,rfl,Ai⟩ (λk _ hk=>yBP _ _ _ _ (λh=>hk (by rw[hr,h];rfl))) (.inl rfl)
   ⟨b,C,_,hr,yBV _ _ cur _ e (0,0) e2,?_,e4,e5,?_,?_,?_⟩
  .simp;omega
  .simp[dG];omega
  .have hpl:(dG ds off ws).length=ds.length:=by simp[dG];omega
   rw[hpl];show aV c (List.take ds.length (cur.toList.take off++vs++cur.toList.drop (off+vs.length))) _
   rw[aI8 _ _ _ _ Ah (by simpa using e6)];exact e7.fill hv h1 off hle
  .exact NU e8 h1 off (off+vs.length)
 .exact Nx.putRow hs hd hq hfl (yAk _) (λ_=>rfl) ⟨rfl,rfl,rfl,Ai⟩ (λk _ hk=>yBP _ _ _ _ (λh=>hk (by rw[hr,h];rfl))) (.inl rfl)
end
end
section
open Go.RowKit
section
variable{P:Program}{c:Cx}{fl:Nat}
def Leaves(fl:Nat)(c:Cx)(p:PD)(σ':List aB)(v:Value)(w':World):Prop:=
 ∃c',c'.w=w'/\c'.σ=σ'/\Sr c'/\Nx fl c c'/\VR c' v p/\∀id,c'.D id->c.D id\/(c.σ.length<=id/\id<σ'.length)
theorem BV{w:World}{a:Addr}{cs:Ge}{n:Nat}(hn:cs.length=n)(h:∀(j:Nat) (v:Value),cs[j]?=some v->w.cell? (a.add j)=some v) :
  (loadCells a n).run P w=.ok cs.toArray w:=by
 subst hn;exact run_loadCells_list w a cs h
theorem TG{w:World}{ad:Addr}{eJ:Ge}{ds:Gc}(hl:aV c eJ ds)(h1:∀v∈eJ,v.oneCell'=true)(hc:∀(j:Nat) (v:Value),eJ[j]?=some v->w.cell? (ad.add j)=some v)
  {t:TypeId} {off:Nat} {p:PD} (h:nP P t ds off=some p):∃v,(loadVar t (ad.add off)).run P w=.ok v w/\VR c v p:=by
 unfold nP at h;split at h
 .rename_i n ha hs;split at h
  .rename_i hle;simp only[yAb]at h;subst h;have hlen:((eJ.drop off).take n).length=n:=by have:=hl.1;simp;omega
   refine⟨.agg ((eJ.drop off).take n).toArray,?_,?_⟩
   .have:=BV (P:=P) (w:=w) (a:=ad.add off) hlen (λj v hv=>by
     rw[yAv]at hv;split at hv
     .rw[yBn]at hv;rw[DL];exact hc _ v hv
     .simp at hv)
    simp[loadVar,NZ ha,nG hs,this]
   .have h2:=hl.take_drop off n;exact .agg _ _ h2.1 (λv hv=>h1 v (yBi (yAy hv))) h2.2
  .exact ak
 .rename_i n ha hs;obtain⟨v,hv,hr⟩:=hl.get h;exact⟨v,by simp[loadVar,NZ ha,hc _ v hv],hr⟩
 .exact ak
theorem aA8(hs:Sr c){t:TypeId}{a p:PD}(h:p6 P c.σ t a=some p){va:Value}(ha:VR c va a):∃v,(Instr.loadAt t va).run P c.w=.ok v c.w/\VR c v p:=by
 unfold p6 at h;split at h
 .rename_i id off;split at h
  .rename_i q hq;obtain⟨b,rfl,hd,_,hr⟩:=ha.tE;obtain⟨b',cs,T,e1,e2,e3,e4⟩:=hs.box id q hd hq;rw[hr]at e1;simp only[yCJ,yAb,yBG,yBl]at e1;subst e1;have hadd:∀j,(⟨b,0,none⟩:Addr).add j=⟨b,j,none⟩:=λj=>Av
   obtain⟨v,r,q⟩:=TG (P:=P) (w:=c.w) (ad:=⟨b,0,none⟩) e3 e4.1 (λj v hv=>by
    rw[hadd];simp only[World.cell?,e2];simpa using hv) h
   rw[hadd]at r;exact nk
  .exact ak
 .rename_i cs off;obtain⟨ad,eJ,rfl,h1,h2,h3⟩:=ha.GU;obtain⟨v,r,q⟩:=TG (P:=P) (w:=c.w) h1 h2 (λj v hv=>(h3 j v hv).1) h;exact nk
 .rename_i id ver off;split at h
  .rename_i e sz fO cs hq;split at h
   .rename_i hver;subst hver;obtain⟨b,rfl,hp⟩:=ha.GN;obtain⟨C,hr⟩:=(hp.2 e sz _ cs hq).2 rfl;obtain⟨b',C',cur,e1,e2,e3,e4,e5,e6,e7,e8⟩:=hs.row id e sz _ cs hp.1 hq;rw[hr]at e1;simp only[yBN,yAb,yBG,yBl,yCp]at e1;obtain⟨rfl,rfl⟩:=e1;obtain⟨v,r,q⟩:=TG (P:=P) (w:=c.w) (ad:=⟨b,0,none⟩) e7 (λv hv=>e8 v (yAy hv)) (λj v hv=>by
     rw[tJ];simp only[World.cell?,e2];rw[yAv]at hv;split at hv
     .simpa using hv
     .cases hv) h
    rw[tJ]at r;simp only[yAp]at r;exact nk
   .cases h
  .cases h
 .exact ak
theorem xS(w:World)(o:Obj):w.grownBy (w.alloc o) none:=World.grownBy_alloc w o none
theorem aI4{c:Cx}{v:Value}{p:PD}(h:uN v=some p):VR c v (vX p):=by
 by_cases hp:p=.slice 0 [] .full
 .subst hp;have hv:v=.slice none 0 0:=by
   unfold uN at h;split at h<;>first|rfl|(simp at h;done)
  subst hv;exact .slice none 0 0 0 [] .nil [] rfl (yAk _) (by simp[maxLen]) Ai rfl Ai Ai Ai ⟨rfl,rfl,rfl⟩
 .have:vX p=p:=by
   unfold vX;split
   .exact absurd rfl hp
   .rfl
  rw[this];exact(TH h).1
theorem aBM{c:Cx}:∀ {vs:Ge} {ps:Gc},uO vs=some ps->aV c vs (ps.map vX)
 | [],ps,h=>by simp[uO]at h;subst h;exact⟨rfl,Ai⟩
 |v::vs,ps,h=>by
  unfold uO at h;cases h1:uN v with
  |none=>simp[h1]at h
  |some p=>
   cases h2:uO vs with
   |none=>simp[h1,h2]at h
   |some qs=>
    simp[h1,h2]at h;subst h;have a1:=aI4 (c:=c) h1;obtain⟨b1,b2⟩:=aBM (c:=c) h2;refine⟨by simpa using b1,λi v' d hv hd=>?_⟩;exact ld
theorem aI5{c:Cx}{v:Value}{p:PD}(t:TypeId)(h:ofValue v=some p):aV c v.cells.toList (boxed t p).cells:=by
 have h0:=(TI (c:=c) h).cells;cases p with
 |agg cs=>
  show aV c _ (if M9 t=true then PD.typed t (cs.map vX)else PD.agg cs).cells
  by_cases ht:M9 t=true
  .rw[yAJ ht];unfold ofValue at h;split at h
   .split at h
    .rename_i ps hps;simp only[yAb,PD.agg.injEq]at h;subst h;exact aBM hps
    .exact ak
   .split at h<;>simp at h
   .unfold uN at h;split at h<;>simp at h
  .rw[yAI ht];exact h0
 |_=>exact h0
theorem NI{t:TypeId}{p:PD}(h:eR P t=some p){v:Value}{i:TypeInfo}(hi:P.info? t=some i)(hz:i.zero=some v)(t':TypeId):aV c v.cells.toList (boxed t' p).cells:=by
 unfold eR at h;rw[hi]at h;simp only[hz]at h;exact aI5 t' h
theorem VR.aIq{c:Cx}{v:Value}{t:TypeId}{ds:Gc}(h:VR c v (.typed t ds)):False:=Ap
theorem NJ{c:Cx}{T t:TypeId}{p:PD}{v:Value}{ds:Gc}(hv:VR c v p)(h:boxed T p=.typed t ds):T=t:=by
 unfold boxed at h;split at h
 .split at h
  .simp only[PD.typed.injEq]at h;exact h.1
  .cases h
 .subst h;cases hv
theorem SN(hs:Sr c){p:PD}{v:Value}(hcv:aV c v.cells.toList p.cells)(h1:∀u∈v.cells.toList,u.oneCell'=true)(T:TypeId)(hT:∀t ds,p=.typed t ds->T=t) :
  (newVar T v).run P c.w=.ok ⟨c.w.heap.size,0,none⟩ (c.w.alloc (.cells v.cells T)) /\
  Leaves fl c (.ptr c.σ.length 0) (c.σ++[.box p]) (.pointer (some ⟨c.w.heap.size,0,none⟩)) (c.w.alloc (.cells v.cells T)):=by
 refine⟨by simp[newVar,newRow],c.push (c.w.alloc (.cells v.cells T)) (.pointer (some ⟨c.w.heap.size,0,none⟩)) (.box p),rfl,rfl,?_,?_,?_,?_⟩
 .refine Sr.push hs (xS _ _) (λb hb=>?_) ⟨_,v.cells,T,rfl,yBZ _ _,hcv,h1,hT⟩;simp[bA]at hb;subst hb;simp
 .refine Nx.push hs (xS _ _) (λb hb=>?_);simp[bA]at hb;subst hb;exact yAk _
 .exact .ptr _ _ _ (.inr rfl) ⟨p,gV.1⟩ gV.2.1
 .exact dj
theorem aI6{q q':PD}{off:Nat}{new:Gc}(h:q.setCells off new=some q')(hn:new.all PD.plain=true):off+new.length<=q.cells.length/\q'.cells=dG q.cells off new:=by
 unfold PD.setCells at h;split at h
 .split at h
  .exact vu
  .exact ak
 .split at h
  .exact vu
  .exact ak
 .rename_i hne N0;split at h
  .rename_i h0;subst h0;split at h
   .rename_i r;simp only[yAb]at h;subst h;have hq:q.cells=[q]:=by cases q<;>first|rfl|(exact(hne _ rfl).elim)|(exact(N0 _ _ rfl).elim)
    have hr:r.cells=[r]:=by
     have:r.plain=true:=Dz;cases r<;>first|rfl|(simp[PD.plain]at this)
    rw[hq,hr];exact⟨Ai,by simp[dG]⟩
   .exact ak
  .exact ak
theorem aI7{q q':PD}{off:Nat}{new:Gc}(h:q.setCells off new=some q')(hn:new.all PD.plain=true){t:TypeId}{ds:Gc}(e:q'=.typed t ds):∃ds',q=.typed t ds':=by
 subst e;unfold PD.setCells at h;split at h
 .split at h<;>simp at h
 .split at h
  .simp only[yAb,PD.typed.injEq]at h;obtain⟨rfl,_⟩:=h;exact⟨_,rfl⟩
  .exact ak
 .split at h
  .split at h
   .simp only[yAb]at h;subst h;simp[PD.plain]at hn
   .exact ak
  .exact ak
theorem aIp(hs:Sr c){t:TypeId}{a p:PD}{σ':Gb}(h:s9 P fl c.σ t a p=some σ'){va v:Value}(ha:VR c va a)(hv:VR c v p) :
  ∃w',(Instr.storeAt t va v).run P c.w=.ok () w'/\Leaves fl c (.aI []) σ' undef w':=by
 unfold s9 at h;split at h
 .rename_i id off;split at h
  .rename_i hfl;split at h
   .rename_i q n hq hn;split at h
    .rename_i hp;split at h
     .rename_i q' cX;simp only[yAb]at h;subst h;obtain⟨b,rfl,hd,_,hr⟩:=ha.tE;obtain⟨b',cs,T,e1,e2,e3,e4⟩:=hs.box id q hd hq;rw[hr]at e1;simp only[yCJ,yAb,yBG,yBl]at e1;subst e1;obtain⟨hle,hcq⟩:=aI6 cX hp.2;have hvc:=hv.cells;have rD:=aV.xT hvc hp.2;have hvl:v.cells.toList.length=n:=by rw[hvc.1];exact hp.1
      have hcl:cs.toList.length=q.cells.length:=e3.1;have hst:=yCZ (P:=P) b off T v.cells.toList 0 cs c.w e2 (by have:=hvc.1;simp at hcl ⊢;simp at this;omega) rD;simp only[yBo]at hst;refine⟨_,?_,c.put (c.w.setRow b (cs.toList.take off++v.cells.toList++cs.toList.drop (off+v.cells.toList.length)).toArray) id (c.ρ id) (.box q'),rfl,rfl,?_,?_,JT _,λi hi=>.inl hi⟩
      .have hsz:v.cells.size=n:=by simpa using hvl
       exact og
      .refine Sr.GV (T:=T) hs hd hq hr ⟨rfl,rfl,rfl,Ai⟩ (λk hk=>yBP _ _ _ _ hk) (yBV _ _ cs _ T (0,0) e2) ?_ ?_
       .rw[hcq];have:=TJ e3 hv off (by rw[hvc.1]at hvl;omega);exact cr
       .refine⟨by have:=NU e4.1 rD off (off+v.cells.toList.length);simpa using this,λt ds e=>?_⟩;exact e4.2 t _ (aI7 cX hp.2 e).choose_spec
      .exact Nx.GV hs hd hq hr hfl ⟨rfl,rfl,rfl,Ai⟩ (λk hk=>yBP _ _ _ _ hk)
     .exact ak
    .exact ak
   .exact ak
  .exact ak
 .rename_i id ver off;split at h
  .rename_i hfl;split at h
   .rename_i e sz fO cs n hq hn;split at h
    .rename_i hc;obtain⟨rfl,hpl,hpp,hle⟩:=hc;simp only[yAb]at h;subst h;obtain⟨b,rfl,hp⟩:=ha.GN;obtain⟨C,hr⟩:=(hp.2 e sz _ cs hq).2 rfl;have hvc:=hv.cells;obtain⟨w',hst,hs',hn'⟩:=aBy (P:=P) (fl:=fl) hs hp.1 hq hr hvc (aV.xT hvc hpp) (off:=off) Ah hfl;have hsz:v.cells.size=n:=by have:=hvc.1;simp at this;omega
     refine⟨w',?_,_,rfl,rfl,hs',hn',JT _,λi hi=>.inl hi⟩;exact og
    .exact ak
   .exact ak
  .exact ak
 .exact ak
end
end
section
open Go.RowKit
section
variable{P:Program}{c:Cx}{fl:Nat}
theorem aBG{c':Cx}{e:TypeId}{size n m:Nat}{v':Value}{xs ys:Gc}{flx fly:Ge}{tok:Tok}(hnx:n=xs.length)(hmy:m=ys.length)(hpos:0<n+m)
  (hx:∀x∈xs,x.cells.length=size) (hy:∀x∈ys,x.cells.length=size) (hlx:flx.length=n*size)
  (JK:∀v∈flx,v.oneCell'=true) (S2:∀v∈fly,v.oneCell'=true)
  (hrx:∀(j:Nat) (v:Value) (d:PD),flx[j]?=some v->(xs.flatMap PD.cells)[j]?=some d->VR c' v d)
  (hry:∀(j:Nat) (v:Value) (d:PD),fly[j]?=some v->(ys.flatMap PD.cells)[j]?=some d->VR c' v d)
  (hown:c'.w.ownsRowF 0 e size v' (n+m) (flx++fly))
  (hav:∀g j,bA v'=some g->j<(n+m)*size->c'.av ⟨g,j,none⟩)
  (htok:∀cap,v'=.slice (match v' with|.slice A _ _=>A|_=>none) (n+m) cap->rC c' size (n+m) cap v' tok) :
  VR c' v' (.slice size (xs++ys) tok):=by
 rcases hown.2 with⟨rfl,h0⟩ | ⟨g,cap,cur,fz,rfl,_,hg,_,hnc,hcm,hcs,htake⟩
 .omega
 .have hlen:(flx++fly).length=(n+m)*size:=hown.1;have hle:(n+m)*size<=cur.toList.length:=by simp[hcs];exact yBO _ hnc
  refine .slice _ (n+m) cap size (xs++ys) tok (flx++fly) (by simp[hnx,hmy]) hnc hcm ?_ hlen ?_ ?_ ?_ (htok cap rfl)
  .intro x hx';rcases yBf.1 hx' with h|h
   .exact hx x h
   .exact hy x h
  .intro v hv;rcases yBf.1 hv with h|h
   .exact JK v h
   .exact S2 v h
  .intro j v hv;have hj:j<(n+m)*size:=by rw[<-hlen];exact(yA.1 hv).1
   refine⟨⟨g,0,none⟩,rfl,?_,?_⟩
   .have hadd:(⟨g,0,none⟩:Addr).add j=⟨g,j,none⟩:=by unfold Addr.add;split<;>simp_all
    rw[hadd];rw[<-htake,yAv,yAJ hj]at hv;simp only[World.cell?,hg];simpa using hv
   .have hadd:(⟨g,0,none⟩:Addr).add j=⟨g,j,none⟩:=by unfold Addr.add;split<;>simp_all
    rw[hadd];exact hav g j rfl hj
  .intro j v d hv hd;rw[yEc]at hd;have hfx:(xs.flatMap PD.cells).length=flx.length:=by rw[D5 xs hx,hlx,hnx]
   rw[yDb]at hv hd
   by_cases h:j<flx.length
   .rw[yAJ h]at hv;rw[yAJ (by rw[hfx];exact h)]at hd;exact hrx j v d hv hd
   .rw[yAI h]at hv;rw[yAI (by rw[hfx];exact h),hfx]at hd;exact hry _ v d hv hd
theorem JU{c':Cx}{a:Addr}(hX:c'.X a)(h:∀id o,c'.D id->c'.σ[id]?=some o->bA (c'.ρ id)=some a.block->∃e size n,o=.own e size n/\a.off<n*size):c'.av a:=by
 refine⟨hX,λid o hd ho=>?_⟩;cases o with
 |none=>trivial
 |box p=>
  intro b hb hab;obtain⟨_,_,_,e,_⟩:=h id _ hd ho (by rw[hb,hab]);cases e
 |own e size n=>
  intro b hb hab;obtain⟨_,_,_,e',hlt⟩:=h id _ hd ho (by rw[hb,hab]);cases e';exact hlt
 |row e size ver ds=>
  intro b hb hab;obtain⟨_,_,_,e',_⟩:=h id _ hd ho (by rw[hb,hab]);cases e'
 |map es=>trivial
 |mark=>trivial
 |loop st fr ps asg bd=>trivial
theorem S8{w:World}{e:TypeId}{size n:Nat}{v:Value}{xs:Ge}(h:w.ownsRowF 0 e size v n xs){b:Nat}(hb:bA v=some b):b<w.heap.size:=by
 rcases h.2 with⟨rfl,_⟩ | ⟨g,cap,cur,fz,rfl,_,hg,_⟩
 .simp[bA]at hb
 .simp[bA]at hb;subst hb;exact gJ hg
def Xw(fl:Nat)(c:Cx):Prop:=∀id g,c.D id->fl<=id->bA (c.ρ id)=some g->∀a:Addr,a.block=g->c.X a
theorem Xw.next{c':Cx}(h:Xw fl c)(hs:Sr c)(nx:Nx fl c c'):Xw fl c':=by
 intro id g hd hf hb a ha;rw[nx.X];rcases yCh g c.w.heap.size with hlt|hge
 .obtain⟨q1,q2⟩:=nx.back id g hd hb hlt;exact h id g q1 hf q2 a ha
 .exact hs.fresh a Ah
theorem aIT{w:World}{e:TypeId}{size n cap:Nat}{A:Option Addr}{JV flx:Ge}(h:w.ownsRowF 0 e size (.slice A n cap) n JV)(hl:flx.length=n*size)
  (hc:∀(j:Nat) (v:Value),flx[j]?=some v->∃ad,A=some ad/\w.cell? (ad.add j)=some v):flx=JV:=by
 apply yCo;intro j;rcases h.2 with⟨hv,h0⟩ | ⟨g,cap',cur,fz,hv,_,hg,_,hnc,_,hcs,htake⟩
 .have e1:flx=[]:=yAf (by rw[hl,h0];simp);have e2:JV=[]:=yAf (by rw[h.1,h0];simp);rw[e1,e2]
 .simp only[yBN]at hv;obtain⟨rfl,_,rfl⟩:=hv
  by_cases hj:j<n*size
  .have hj':j<flx.length:=by rw[hl];exact hj
   obtain⟨ad,e,hcell⟩:=hc j flx[j] (by simp[hj']);cases e;have hadd:(⟨g,0,none⟩:Addr).add j=⟨g,j,none⟩:=Av;rw[hadd]at hcell;simp only[World.cell?,hg]at hcell;rw[<-htake,yAv,yAJ hj];rw[yAh hj'];simpa using hcell.symm
  .rw[yBB (by rw[hl];omega),yBB (by rw[h.1];omega)]
structure Src (P:Program) (w:World) (t u ty e:TypeId) (i:TypeInfo) (vx:Value) (m:Nat) (fly:List Value):Prop where
 none_:m=0->∀(A:Option Addr) (n cap:Nat),n<=cap->(Builtin.append_ #[t,u] ty #[.slice A n cap,vx]).run P w=.ok (.slice A n cap) w
 grow:0<m->∀(A:Option Addr) (n cap:Nat) (flx:List Value),(A=none->n=0/\cap=0)->flx.length=n*i.size->(∀(j:Nat) (v:Value),flx[j]?=some v->∃ad,A=some ad/\w.cell? (ad.add j)=some v) ->
  cap<n+m->n+m<=maxLen->(n+m)*i.bytes<=140737488355328 ->
  ∃v' w',(Builtin.append_ #[t,u] ty #[.slice A n cap,vx]).run P w=.ok v' w'/\w'.ownsRowF 0 e i.size v' (n+m) (flx++fly)/\w.grownBy w' none/\∀b,bA v'=some b->w.heap.size<=b
 spare:∀(g n cap:Nat) (flx:List Value),w.ownsRowF 0 e i.size (.slice (some ⟨g,0,none⟩) n cap) n flx->n+m<=cap ->
  ∃w',(Builtin.append_ #[t,u] ty #[.slice (some ⟨g,0,none⟩) n cap,vx]).run P w=.ok (.slice (some ⟨g,0,none⟩) (n+m) cap) w' /\
   w'.ownsRowF 0 e i.size (.slice (some ⟨g,0,none⟩) (n+m) cap) (n+m) (flx++fly)/\w.grownBy w' (some g)
theorem aBH{w:World}{b:Nat}{e:TypeId}{size n:Nat}{v:Value}{xs:Ge}(h:w.ownsRow b e size v n xs):w.ownsRowF 0 e size v n xs:=
 ⟨h.1,h.2.imp (λq=>q) (λ⟨g,cp,cur,q1,_,q2,q3⟩=>⟨g,cp,cur,(0,0),q1,yAF _,q2,yAF _,q3⟩)⟩
theorem aBI{w:World}{b:Nat}{e:TypeId}{size n:Nat}{v:Value}{xs:Ge}(h:w.ownsRow b e size v n xs):∀k,bA v=some k->b<=k:=by
 intro k hb;rcases h.2 with⟨rfl,_⟩ | ⟨g,cp,cur,rfl,hge,_⟩
 .simp[bA]at hb
 .simp[bA]at hb;omega
theorem aIU{w:World}{b:Nat}{e:TypeId}{size n:Nat}{v:Value}{xs:Ge}(h:w.ownsRowF b e size v n xs):∀k,bA v=some k->b<=k:=by
 intro k hb;rcases h.2 with⟨rfl,_⟩ | ⟨g,cp,cur,fz,rfl,hge,_⟩
 .simp[bA]at hb
 .simp[bA]at hb;omega
theorem aIV{w:World}{b:Nat}{e:TypeId}{size n:Nat}{v:Value}{xs:Ge}(h:w.ownsRowF b e size v n xs):w.ownsRowF 0 e size v n xs:=
 ⟨h.1,h.2.imp (λq=>q) (λ⟨g,cp,cur,fz,q1,_,q2⟩=>⟨g,cp,cur,fz,q1,yAF _,q2⟩)⟩
theorem aIW{w:World}{t ty e:TypeId}{i:TypeInfo}{z:Value}(hu:P.underlying t=some (.slice e))(hi:P.info? e=some i)(hz:i.zero=some z)(hzs:z.cells.size=i.size)(hpos:0<i.size){B:Option Addr}{m c':Nat}{fly:Ge}
  (hl:fly.length=m*i.size) (h1:∀v∈fly,v.oneCell'=true) (hb:∀(j:Nat) (v:Value),fly[j]?=some v->∃ad,B=some ad/\w.cell? (ad.add j)=some v):Src P w t t ty e i (.slice B m c') m fly where
 none_:=λh0 A n cap hn=>by
  subst h0;have hfy:(Builtin.firstCells i.size 0 (.slice B 0 c')).run P w=.ok #[] w:=by
   cases B<;>simp[Builtin.firstCells,loadCells,loadCellsFrom]
  exact ri
 grow:=λhm A n cap flx hA hlx hc hcap hmax hby=>by
  have S3:0<fly.length:=by rw[hl];exact yDr hm hpos
  obtain⟨bd,rfl,_⟩:=hb 0 fly[0] (by simp[S3]);have hnews:∀(j:Nat) (u:Value),fly[j]?=some u->w.cell? (bd.add j)=some u:=λj u hj=>by
   obtain⟨ad,e',h9⟩:=hb j u hj;exact kj
  cases A with
  |none=>
   obtain⟨rfl,rfl⟩:=hA rfl;have JL:flx=[]:=yAf (by rw[hlx];simp);subst JL;obtain⟨v',w',r,h2,h3,h4,h5⟩:=run_append_own_at (P:=P) w w.heap.size t ty e i z i.size i.bytes hu hi hz rfl rfl hzs hpos (.slice none 0 0) 0 [] (World.ownsRow_nil _ _ _ _)
    bd m c' fly hl hnews h1 Ah (by simpa using hby) (yAk _)
   exact⟨v',w',r,aBH h2,h3,aBI h2⟩
  |some ad=>
   have holds:∀(j:Nat) (u:Value),flx[j]?=some u->w.cell? (ad.add j)=some u:=λj u hj=>by
    obtain⟨JM,e',h9⟩:=hc j u hj;exact kj
   obtain⟨v',w',r,h2,h3⟩:=run_append_arg_grows (P:=P) w t ty e i z i.size i.bytes hu hi hz rfl rfl hzs hpos ad n cap flx hlx holds bd m c' fly hl hnews hcap hmax hby;exact⟨v',w',r,aBH h2,h3,aBI h2⟩
 spare:=λg n cap flx hown hroom=>by
  rcases hown.2 with⟨h0,_⟩ | ⟨g',cap',cur,fz,hv,hbg,hg,hfz,hnc,hcm,hcs,htake⟩
  .cases h0
  .cases hv;have hlen:(flx++fly).length=(n+m)*i.size:=by rw[yAa,hown.1,hl,yBw]
   have hfit:n*i.size+fly.length<=cur.size:=by rw[hl,hcs,<-yBw];exact yBO _ hroom
   have hst:=run_storeCells_atF P g (n*i.size) e fz fly 0 cur w hg (by simpa using hfz) (by simpa using hfit) h1;simp only[yBo]at hst;have hf:(Builtin.firstCells i.size m (.slice B m c')).run P w=.ok fly.toArray w:=by
    cases B with
    |none=>
     have:fly=[]:=by
      cases fly with
      |nil=>rfl
      |cons x xs=>obtain⟨_,e',_⟩:=hb 0 x rfl;cases e'
     exact rm
    |some bd=>
     simp only[Builtin.firstCells];exact BV hl λj v hj=>by
      obtain⟨ad,e',h9⟩:=hb j v hj;exact kj
   have hr:(Builtin.append_ #[t,t] ty #[.slice (some ⟨g,0,none⟩) n cap,.slice B m c']).run P w =
     .ok (.slice (some ⟨g,0,none⟩) (n+m) cap) (w.setRow g (cur.toList.take (n*i.size)++fly++cur.toList.drop (n*i.size+fly.length)).toArray):=by
    simp[Builtin.append_,yAM hu,sizeOf,typeInfo,hi,Builtin.lenOf,hroom,hf,Addr.add_lit,hst]
   refine⟨_,hr,⟨hlen,.inr ⟨g,cap,_,fz,rfl,hbg,yBV w g cur _ e _ hg,?_,hroom,hcm,?_,?_⟩⟩,⟨rfl,rfl,rfl,Ai,λk _ hk=>yBP w g k _ (λe=>hk (by simp[e]))⟩⟩
   .exact yAV hfz (yBO _ Ah)
   .simp only[yCq,yAa,yAt,yBg,yBj];omega
   .rw[htake,<-hlen];exact yCr
theorem aIX{w:World}{t u ty e:TypeId}{i:TypeInfo}(hu:P.underlying t=some (.slice e))(hs:P.underlying u=some .string)(hi:P.info? e=some i)(hz:i.zero=some (.int .u8 0))(hsz:i.size=1)(hby:i.bytes=1)(l:List UInt8) :
  Src P w t u ty e i (.string ⟨l.toArray⟩) l.length (l.map λb=>.int .u8 b.toNat):=by
 have hsl:(ByteArray.mk l.toArray).size=l.length:=Eg;have hcl:Lib.strCells ⟨l.toArray⟩=l.map λb=>Value.int .u8 b.toNat:=by simp[Lib.strCells]
 refine⟨λh0 A n cap hn=>?_,λhm A n cap flx hA hlx hc hcap hmax hb=>?_,λg n cap flx hown hroom=>?_⟩
 .have:l=[]:=yAf h0;subst this;have hfy:(Builtin.firstCells i.size 0 (.string ⟨#[]⟩)).run P w=.ok #[] w:=by simp[Builtin.firstCells]
  have hl0:(ByteArray.mk (#[]:Array UInt8)).size=0:=rfl;cases A<;>simp[Builtin.append_,yAM hu,yAM hs,sizeOf,typeInfo,hi,Builtin.lenOf,hl0,hfy,hn,storeCells]
 .cases A with
  |none=>
   obtain⟨rfl,rfl⟩:=hA rfl;have JL:flx=[]:=yAf (by rw[hlx];simp);subst JL;obtain⟨v',w',r,h2,h3,_⟩:=Lib.run_append_own_stringF (P:=P) w w.heap.size t u ty e i hu hs hi hz hsz hby (.slice none 0 0) 0 [] (World.ownsRowF_nil _ _ _ _) ⟨l.toArray⟩ Ah (by rw[hsl];rw[hby]at hb;omega) (yAk _);rw[hsl,hcl]at h2;rw[hsz];exact⟨v',w',r,aIV h2,h3,aIU h2⟩
  |some ad=>
   have holds:∀(j:Nat) (u:Value),flx[j]?=some u->w.cell? (ad.add j)=some u:=λj u hj=>by
    obtain⟨JM,e',h9⟩:=hc j u hj;exact kj
   have hr:=Lib.run_append_grow_string (P:=P) w t u ty e i (.int .u8 0) hu hs hi hz ad n cap flx hlx holds ⟨l.toArray⟩ Ah (by rw[hsl];simp only[maxLen]at hmax;omega) (by rw[hby,hsl];exact growslice_fits Ah (by rw[hby]at hb;omega));rw[hsl]at hr;have hge:=yDs w (n+l.length) cap e;have aIY:grownCap w (n+l.length) cap e<=maxLen:=yDN w (n+l.length) cap e hmax;refine⟨_,_,hr,⟨by simp[hlx,hsz],.inr ⟨w.heap.size,_,_,(0,0),rfl,yAF _,yBZ w.drew _,yAF _,hge,aIY,?_,?_⟩⟩,⟨rfl,rfl,rfl,Ai,λk hk _=>yDt w.drew _ hk⟩,λb hb'=>by simp[bA]at hb';omega⟩
   .have hz1:(Value.int IntKind.u8 0).cells.size=1:=rfl;rw[hsz]at hlx;simp only[yDP,yCq,yDu,hz1,hlx,hcl,yAe,hsz];omega
   .rw[hcl,hsz];simp only[yDO,yAi];rw[<-yAi];have:(n+l.length)*1=(flx++l.map λb=>Value.int .u8 b.toNat).length:=by rw[yAa,hlx,hsz,yAe];omega
    rw[this];exact yCr
 .rcases hown.2 with⟨h0,_⟩ | ⟨g',cap',cur,fz,hv,hbg,hg,hfz,hnc,hcm,hcs,htake⟩
  .cases h0
  .cases hv;rw[hsz]at hown hfz hcs htake;have hxl:flx.length=n:=by simpa using hown.1
   have hr:=Lib.run_append_room_stringF (P:=P) w t u ty e i hu hs hi hsz g n cap cur fz hg (by simpa using hfz) ⟨l.toArray⟩ (by rw[hsl];exact hroom) (by rw[hsl];omega);rw[hsl,hcl]at hr;have hlen:(flx++l.map λb=>Value.int .u8 b.toNat).length=(n+l.length)*1:=by rw[yAa,hxl,yAe,yDc]
   rw[hsz];refine⟨_,hr,⟨hlen,.inr ⟨g,cap,_,fz,rfl,hbg,yBV w g cur _ e _ hg,Ah,hroom,hcm,?_,?_⟩⟩,⟨rfl,rfl,rfl,Ai,λk _ hk=>yBP w g k _ (λe=>hk (by simp[e]))⟩⟩
   .simp only[yCq,yAa,yAt,yBg,yBj,yAe];omega
   .have ht':cur.toList.take n=flx:=by simpa using htake
    rw[ht',<-hlen];exact yCr
theorem aBJ(hs:Sr c)(hX:Xw fl c){t u ty:TypeId}{s p:PD}{sz':Nat}{ys:Gc}{fZ:Tok}{σ':Gb}(hnn:∀n xs,s≠.slice n xs .nil)(h:gH P fl c.σ t s (.slice sz' ys fZ)=some (p,σ')){vs vx:Value}(hvs:VR c vs s){fly:Ge}
  (b3:∀x∈ys,x.cells.length=sz') (b5:∀v∈fly,v.oneCell'=true) (b7:∀(j:Nat) (v:Value) (d:PD),fly[j]?=some v->(ys.flatMap PD.cells)[j]?=some d->VR c v d)
  (hsrc:∀e i z,P.underlying t=some (.slice e)->P.info? e=some i->i.zero=some z->z.cells.size=i.size->0<i.size->(ys.length=0\/sz'=i.size)->Src P c.w t u ty e i vx ys.length fly) :
  ∃v w',(Builtin.append_ #[t,u] ty #[vs,vx]).run P c.w=.ok v w'/\Leaves fl c p σ' v w':=by
 unfold gH at h;split at h
 .rename_i e hu;split at h
  .rename_i i hi;split at h
   .rename_i z sz xs tok DZ ys1 aVa hz hxx;simp only[PD.slice.injEq]at hxx;obtain⟨rfl,rfl,rfl⟩:=hxx;split at h
    .rename_i hc;obtain⟨hsz,GP,hpos,hzs,hmax,hby⟩:=hc;obtain⟨A,cap,flx,rfl,a1,a2,a3,a4,a5,a6,a7,a8⟩:=hvs.oF;have src:=hsrc e i z hu hi hz hzs hpos GP
     by_cases hy0:ys.length=0
     ·
      rw[yAJ hy0]at h;simp only[yAb,yAc]at h;obtain⟨rfl,rfl⟩:=h;exact⟨.slice A xs.length cap,c.w,src.none_ hy0 A _ cap a1,c,rfl,rfl,hs,.refl _ _,hvs,λ_ h=>.inl h⟩
     .rw[yAI hy0]at h;have hypos:0<ys.length:=yCY hy0;have aIZ:sz'=i.size:=GP.resolve_left hy0;subst aIZ;have hcells:∀(j:Nat) (v:Value),flx[j]?=some v->∃ad,A=some ad/\c.w.cell? (ad.add j)=some v:=λj v hj=>by
       exact lu
      cases tok with
      |any=>simp at h
      |jF=>simp at h
      |jR=>simp at h
      |nil=>exact absurd rfl (hnn _ _)
      |full=>
       simp only[yAb,yAc]at h;obtain⟨rfl,rfl⟩:=h;simp only[rC]at a8;have hx3:∀x∈xs,x.cells.length=i.size:=λx hx=>by
        have:xs.length≠0:=by intro e0;rw[List.length_eq_zero_iff.1 e0]at hx;cases hx
        rw[<-hsz.resolve_left this];exact a3 x hx
       have TD:flx.length=xs.length*i.size:=by
        exact vf
       have hA:A=none->xs.length=0/\cap=0:=by
        rintro rfl
        have hx0:xs.length=0:=by
         rcases yEb xs.length with h0|h0
         .exact h0
         .have:0<flx.length:=by rw[TD];exact yDr h0 hpos
          exact ve
        exact⟨hx0,Ah⟩
       obtain⟨v',w',r,hown,hgr,hnew⟩:=src.grow hypos A xs.length cap flx hA TD hcells Ah hmax hby;refine⟨v',w',r,c.push w' v' (.own e i.size (xs.length+ys.length)),rfl,rfl,?_,?_,?_,?_⟩
       .exact Sr.push hs hgr (λb hb=>⟨hnew b hb,S8 hown hb⟩) ⟨_,hown⟩
       .exact Nx.push hs hgr hnew
       .have nx:Nx 0 c (c.push w' v' (.own e i.size (xs.length+ys.length))):=Nx.push hs hgr hnew;refine aBG (e:=e) (flx:=flx) (fly:=fly) rfl rfl Ah hx3 b3 TD a5 b5 (λj v d q1 q2=>(a7 j v d q1 q2).mono nx) (λj v d q1 q2=>(b7 j v d q1 q2).mono nx) hown ?_ ?_
        .intro g j hg hj;refine JU (hs.fresh _ (hnew g hg)) (λid o hd ho hb=>?_);rcases hd with hd|rfl
         .rw[oX hs hd]at hb;have:=hs.lt id g hd hb;have:=hnew g hg;omega
         .rw[gV.1]at ho;exact vo
        .intro cp _;exact⟨.inr rfl,e,_,gV.1,yAk _,λ_=>gV.2.1⟩
       .exact dj
      |own id=>
       simp only at h;split at h
       .rename_i hflid;split at h
        .rename_i e' lL n hq;split at h
         .rename_i hcc;obtain⟨he,rfl,rfl⟩:=hcc;have he:=he.symm;subst he;simp only[yAb,yAc]at h;obtain⟨rfl,rfl⟩:=h;obtain⟨hfl,rfl⟩:=hflid;obtain⟨hd,e0,m0,cX,hle,hρ⟩:=a8;rw[hq]at cX;simp only[yAb,aB.own.injEq]at cX;obtain⟨rfl,_,rfl⟩:=cX;have aBK:=hρ rfl;obtain⟨JV,NY⟩:=hs.own id _ _ _ hd hq;rw[aBK]at NY;have hfx:flx=JV:=aIT NY a4 hcells;subst hfx;have hrun:∃v' w',(Builtin.append_ #[t,u] ty #[.slice A xs.length cap,vx]).run P c.w=.ok v' w' /\
            w'.ownsRowF 0 e i.size v' (xs.length+ys.length) (flx++fly)/\(w'.os=c.w.os/\w'.tape=c.w.tape/\w'.output=c.w.output/\c.w.heap.size<=w'.heap.size) /\
            (∀k,k<c.w.heap.size->bA (c.ρ id)≠some k->w'.heap[k]?=c.w.heap[k]?) /\
            (∀(a:Addr) (u:Value),(∀b,bA (c.ρ id)=some b->a.block=b->a.off<xs.length*i.size)->c.w.cell? a=some u->w'.cell? a=some u) /\
            (bA v'=bA (c.ρ id)\/∀b,bA v'=some b->c.w.heap.size<=b):=by
           rw[aBK];have hgrow:cap<xs.length+ys.length->(A=none->xs.length=0/\cap=0)->∃v' w',(Builtin.append_ #[t,u] ty #[.slice A xs.length cap,vx]).run P c.w=.ok v' w' /\
             w'.ownsRowF 0 e i.size v' (xs.length+ys.length) (flx++fly)/\(w'.os=c.w.os/\w'.tape=c.w.tape/\w'.output=c.w.output/\c.w.heap.size<=w'.heap.size) /\
             (∀k,k<c.w.heap.size->bA (.slice A xs.length cap)≠some k->w'.heap[k]?=c.w.heap[k]?) /\
             (∀(a:Addr) (u:Value),(∀b,bA (.slice A xs.length cap)=some b->a.block=b->a.off<xs.length*i.size)->c.w.cell? a=some u->w'.cell? a=some u) /\
             (bA v'=bA (.slice A xs.length cap)\/∀b,bA v'=some b->c.w.heap.size<=b):=λhcap hA=>by
            obtain⟨v',w',r,h2,h3,h4⟩:=src.grow hypos A xs.length cap flx hA a4 hcells hcap hmax hby;refine⟨v',w',r,h2,⟨h3.os,h3.tape,h3.output,h3.size⟩,λk hk _=>h3.block k hk Ai,λa u _ uS=>?_,.inr h4⟩;rw[yCH (h3.block a.block (zQ uS) Ai)];exact uS
           rcases NY.2 with⟨iN,h0⟩ | ⟨g,aVb,cur,fz,iN,_,hg,hfz,hnc,hcm,hcs,htake⟩
           .simp only[yBN]at iN;obtain⟨rfl,_,rfl⟩:=iN;exact hgrow Ah (λ_=>⟨h0,rfl⟩)
           .simp only[yBN]at iN;obtain⟨rfl,_,rfl⟩:=iN
            by_cases hroom:xs.length+ys.length<=cap
            .obtain⟨w',r,h2,h3⟩:=src.spare g xs.length cap flx NY hroom;refine⟨_,w',r,h2,⟨h3.os,h3.tape,h3.output,h3.size⟩,λk hk hne=>h3.block k hk (by simpa [bA,eq_comm]using hne),λa u ha uS=>?_,.inl rfl⟩
             by_cases hag:a.block=g
             .have hoff:=ha g rfl hag;rcases h2.2 with⟨rD,_⟩ | ⟨g1,cp1,aI0,fz1,rD,_,oG,_,_,_,_,aI1⟩
              .simp at rD
              .simp only[yBN,yAb,yBG,yBl]at rD;obtain⟨rfl,_,rfl⟩:=rD;obtain⟨ab,ao,asp⟩:=a;simp only at hag hoff;subst hag;simp only[World.cell?,hg,oG]at uS ⊢;split at uS
               .simp at uS
               .rename_i hsp;rw[yAI hsp];have q1:flx[ao]?=some u:=by rw[<-htake,yAv,yAJ hoff];simpa using uS
                have q2:(flx++fly)[ao]?=some u:=by rw[yAg (yA.1 q1).1];exact q1
                rw[<-aI1,yAv]at q2;split at q2
                .simpa using q2
                .simp at q2
             .rw[yCH (h3.block a.block (zQ uS) (by simpa using hag))];exact uS
            .exact hgrow Ah (λh=>Ap)
          obtain⟨v',w',r,hown,h0,h1,h2,h3⟩:=hrun;have hn:xs.length<xs.length+ys.length:=Ah;refine⟨v',w',r,c.put w' id v' (.own e i.size (xs.length+ys.length)),rfl,rfl,Sr.JW hs hd hq hn h0 h1 h2 h3 hown (λb hb=>S8 hown hb),Nx.JW hs hd hq hfl hn h0 h1 h2 h3,?_,λ_ h=>.inl h⟩;have nx:Nx 0 c (c.put w' id v' (.own e i.size (xs.length+ys.length))):=Nx.JW hs hd hq (yAF _) hn h0 h1 h2 h3;refine aBG (e:=e) (flx:=flx) (fly:=fly) rfl rfl Ah a3 b3 a4 a5 b5 (λj v d q1 q2=>(a7 j v d q1 q2).mono nx) (λj v d q1 q2=>(b7 j v d q1 q2).mono nx) hown ?_ ?_
          .intro g j hg hj;have hXg:c.X ⟨g,j,none⟩:=by
            rcases h3 with h3|h3
            .exact hX id g hd hfl (by rw[<-h3];exact hg) _ rfl
            .exact hs.fresh _ (h3 g hg)
           refine JU hXg (λi' o hd' ho hb=>?_)
           by_cases e':i'=id
           .subst e';rw[fC (hs.bG i' hd)]at ho;exact vo
           .rw[gA e']at hb
            exfalso
            rcases h3 with h3|h3
            .exact hs.inj i' id g hd' hd e' hb (by rw[<-h3];exact hg)
            .have:=h3 g hg;have:=hs.lt i' g hd' hb;omega
          .intro cp _;exact⟨hd,e,_,fC (hs.bG id hd),yAk _,λ_=>mQ⟩
         .exact ak
        .exact ak
       .exact ak
    .exact ak
   .exact ak
  .exact ak
 .exact ak
theorem aBL(hs:Sr c)(hX:Xw fl c){t u ty:TypeId}{s p:PD}{sz':Nat}{ys:Gc}{fZ:Tok}{σ':Gb}(h:gH P fl c.σ t s (.slice sz' ys fZ)=some (p,σ')){vs vx:Value}(hvs:VR c vs s){fly:Ge}
  (b3:∀x∈ys,x.cells.length=sz') (b5:∀v∈fly,v.oneCell'=true) (b7:∀(j:Nat) (v:Value) (d:PD),fly[j]?=some v->(ys.flatMap PD.cells)[j]?=some d->VR c v d)
  (hsrc:∀e i z,P.underlying t=some (.slice e)->P.info? e=some i->i.zero=some z->z.cells.size=i.size->0<i.size->(ys.length=0\/sz'=i.size)->Src P c.w t u ty e i vx ys.length fly) :
  ∃v w',(Builtin.append_ #[t,u] ty #[vs,vx]).run P c.w=.ok v w'/\Leaves fl c p σ' v w':=by
 by_cases hn:∃n xs,s=.slice n xs .nil
 .obtain⟨n,xs,rfl⟩:=hn;have aI2:VR c vs (.slice n xs .full):=by
   obtain⟨A,cap,eJ,rfl,a1,a2,a3,a4,a5,a6,a7,a8⟩:=hvs.oF;exact .slice A _ cap n xs .full eJ rfl a1 a2 a3 a4 a5 a6 a7 (by obtain⟨_,q1,q2⟩:=a8;show xs.length=cap;omega)
  have h2:∀(h0:ys.length≠0),gH P fl c.σ t (.slice n xs .full) (.slice sz' ys fZ)=some (p,σ'):=λh0=>by
   unfold gH at h ⊢;cases he:P.underlying t with
   |none=>rw[he]at h;cases h
   |some d=>
    rw[he]at h;cases d with
    |slice e=>
     simp only at h ⊢;cases hi:P.info? e with
     |none=>rw[hi]at h;cases h
     |some i=>
      rw[hi]at h;simp only at h ⊢;cases hz:i.zero with
      |none=>rw[hz]at h;cases h
      |some z=>
       rw[hz]at h;simp only[h0,yAN]at h ⊢;exact h
    |_=>cases h
  by_cases h0:ys.length=0
  .obtain⟨A,cap,eJ,rfl,a1,a2,a3,a4,a5,a6,a7,a8⟩:=hvs.oF;unfold gH at h;split at h
   .rename_i e he;split at h
    .rename_i i hi;split at h
     .rename_i z _ _ _ _ _ _ hz he2 he3;simp only[PD.slice.injEq]at he2 he3;obtain⟨rfl,rfl,rfl⟩:=he2;obtain⟨rfl,rfl,rfl⟩:=he3;split at h
      .rename_i hc;simp only[yAb,yAc]at h;obtain⟨rfl,rfl⟩:=h;exact⟨.slice A xs.length cap,c.w,(hsrc e i z he hi hz hc.2.2.2.1 hc.2.2.1 hc.2.1).none_ h0 A _ cap a1,c,rfl,rfl,hs,.refl _ _,hvs,λ_ h=>.inl h⟩
      .cases h
     .cases h
    .cases h
   .cases h
  .exact aBJ hs hX (λ_ _ e=>Bj) (h2 h0) aI2 b3 b5 b7 hsrc
 .exact aBJ hs hX (λn xs e=>hn ⟨n,xs,e⟩) h hvs b3 b5 b7 hsrc
theorem aIB(hs:Sr c)(hX:Xw fl c){t:TypeId}{s x p:PD}{σ':Gb}(h:gH P fl c.σ t s x=some (p,σ')){vs vx:Value}(hvs:VR c vs s)(hvx:VR c vx x)(ty:TypeId) :
  ∃v w',(Builtin.append_ #[t,t] ty #[vs,vx]).run P c.w=.ok v w'/\Leaves fl c p σ' v w':=by
 have hx:∃sz' ys fZ,x=.slice sz' ys fZ:=by
  unfold gH at h;split at h
  .split at h
   .split at h
    .exact⟨_,_,_,rfl⟩
    .cases h
   .cases h
  .cases h
 obtain⟨sz',ys,fZ,rfl⟩:=hx;obtain⟨B,cap',fly,rfl,b1,b2,b3,b4,b5,b6,b7,b8⟩:=hvx.oF;refine aBL hs hX h hvs b3 b5 b7 (λe i z hu hi hz hzs hpos hsz=>?_);have hl:fly.length=ys.length*i.size:=by
  rcases hsz with h0|h0
  .rw[b4,h0];simp
  .rw[b4,h0]
 exact aIW hu hi hz hzs hpos hl b5 (λj v hj=>by obtain⟨ad,q1,q2,_⟩:=b6 j v hj;exact⟨ad,q1,q2⟩)
def aI3(l:List UInt8):PD:=.slice (if l.length=0 then 0 else 1) (l.map λb=>.int .u8 b.toNat) .any
theorem TF:∀l:List UInt8,(l.map λb=>PD.int .u8 b.toNat).flatMap PD.cells=l.map λb=>PD.int .u8 b.toNat
 | []=>rfl
 |x::xs=>by
  simp only[yAS,yBr,TF xs];rfl
theorem aIC(hs:Sr c)(hX:Xw fl c){t u:TypeId}{s p:PD}{l:Gd}{σ':Gb}(hst:P.underlying u=some .string)(hb:NA P t=true)(h:gH P fl c.σ t s (aI3 l)=some (p,σ')){vs:Value}(hvs:VR c vs s)(ty:TypeId) :
  ∃v w',(Builtin.append_ #[t,u] ty #[vs,.string ⟨l.toArray⟩]).run P c.w=.ok v w'/\Leaves fl c p σ' v w':=by
 have hfm:(l.map λb=>PD.int .u8 b.toNat).flatMap PD.cells=l.map λb=>PD.int .u8 b.toNat:=TF l
 have:=aBL (u:=u) (ty:=ty) (vx:=.string ⟨l.toArray⟩) (fly:=l.map λb=>.int .u8 b.toNat) hs hX h hvs ?_ ?_ ?_ ?_
 .exact this
 .intro x hx;obtain⟨b,hb,rfl⟩:=yAw.1 hx;have:l.length≠0:=by intro e;rw[List.length_eq_zero_iff.1 e]at hb;cases hb
  rw[yAI this];rfl
 .intro v hv;obtain⟨b,_,rfl⟩:=yAw.1 hv;rfl
 .intro j v d h1 h2;rw[hfm]at h2;rw[yAo]at h1 h2;cases hj:l[j]? with
  |none=>rw[hj]at h1;simp at h1
  |some b=>
   rw[hj]at h1 h2;simp only[yAC,yAb]at h1 h2;subst h1 h2;exact .int _ _
 .intro e i z hu hi hz hzs hpos hsz;simp only[NA,hu,hi,hz]at hb;rw[yAe];split at hb
  .rename_i heq;simp only[yAb]at heq;subst heq;simp only[yAr,yCg]at hb;exact aIX hu hst hi hz hb.1 hb.2 l
  .cases hb
end
end
section
open Go.RowKit
section
variable{P:Program}{c:Cx}{fl:Nat}
theorem aBE{n:Nat}:∀(parts:List (Nat×PD)) (i:Nat) (ps z:List PD),GC i parts=some ps->(∀p∈ps,p.cells.length=n/\p.cells.all PD.plain=true)->(i+ps.length)*n<=z.length ->
  xQ (λi=>some (i*n,n)) z parts=some (z.take (i*n)++ps.flatMap PD.cells++z.drop ((i+ps.length)*n))
 | [],i,ps,z,h,_,_=>by simp[GC]at h;subst h;simp[xQ]
 |(j,p)::parts,i,ps,z,h,hp,hl=>by
  unfold GC at h;split at h
  .rename_i hj;subst hj;split at h
   .rename_i qs hq;simp only[yAb]at h;subst h;obtain⟨q8,kQ⟩:=hp p Ai;have hle:(j+1+qs.length)*n<=z.length:=by simpa [yBW,yDo 1]using hl
    have hjn:j*n+n<=z.length:=by
     exact ux
    have hz:(dG z (j*n) p.cells).length=z.length:=by simp[dG,q8];omega
    have ih:=aBE parts (j+1) qs (dG z (j*n) p.cells) hq (λq cX=>hp q (by simp[cX])) (by rw[hz];exact hle);have e1:(dG z (j*n) p.cells).take ((j+1)*n)=z.take (j*n)++p.cells:=by
     unfold dG;rw[yDa (by simp[q8,yBw];omega),yAz (by simp[q8,yBw];omega)]
    have e2:(dG z (j*n) p.cells).drop ((j+1+qs.length)*n)=z.drop ((j+1+qs.length)*n):=by
     have h3:j*n+n<=(j+1+qs.length)*n:=by
      exact ux
     unfold dG;rw[List.drop_append,yAs (by simp[q8];omega),yAO,yBD]
     congr 1
     simp[q8];omega
    unfold xQ;simp only;rw[yAI (by simp[q8,kQ];omega),ih,e1,e2];simp only[yBr,yAi,yAT];rw[show j+1+qs.length=j+(qs.length+1) by omega]
   .exact ak
  .exact ak
theorem aBD{t:TypeId}{n:Nat}(h:cH P t=some n):∃i,P.info? t=some i/\i.size=n:=NW h
theorem aBw(hs:Sr c){t:TypeId}{len:Nat}{parts:List (Nat×PD)}{vparts:List (Nat×Value)}{p:PD}(h:uL P t len parts=some p)(hl:vparts.length=parts.length)
  (hp:∀(i:Nat) (jv:Nat×Value) (jp:Nat×PD),vparts[i]?=some jv->parts[i]?=some jp->jv.1=jp.1/\VR c jv.2 jp.2) :
  ∃e cells',P.underlying t=some (.slice e)/\(Instr.buildSlice t len vparts.toArray).run P c.w=.ok (.slice (some ⟨c.w.heap.size,0,none⟩) len len) (c.w.alloc (.cells cells' e)) /\
   ∀w'' fz,c.w.grownBy w'' none->w''.heap[c.w.heap.size]?=some (.cells cells' e fz)->VR (c.at w'') (.slice (some ⟨c.w.heap.size,0,none⟩) len len) p:=by
 unfold uL at h;split at h
 .rename_i e hu;split at h
  .rename_i n z ps hn hz hix;split at h
   .rename_i hcond;obtain⟨hlen,hn0,hsmall,hall,hzl,hzp⟩:=hcond;simp only[yAb]at h;subst h;obtain⟨zv,i,hi,hzv,hzr⟩:=D3 (c:=c) hz;have hzc:=hzr.cells;have hzs:zv.cells.size=n:=El;have hps:∀q∈ps,q.cells.length=n/\q.cells.all PD.plain=true:=λq hq=>by
     have:=yAn.1 hall q hq;exact cr
    let z0:List PD:=(List.range (len*n)).map λk=>z.cells.getD (k%n) (.aI [])
    let c0:Array Value:=(Array.range (len*n)).map λk=>zv.cells[k%zv.cells.size]!
    have hc0:aV c c0.toList z0:=by
     refine⟨by simp[c0,z0],λk v d hv hd=>?_⟩;simp only[c0,z0,yDp,yDq,yAo]at hv hd;cases hk:(List.range (len*n))[k]? with
     |none=>simp[hk]at hv
     |some k'=>
      exact gq
    have hz1:∀v∈zv.cells.toList,v.oneCell'=true:=aV.xT hzc hzp;have dY:∀v∈c0.toList,v.oneCell'=true:=by
     intro v hv;simp only[c0,yDp,yDq,yAw]at hv;exact mo
    have aBF:z0.length=len*n:=by simp[z0]
    have hfi:=aBE (n:=n) parts 0 ps z0 hix hps (by rw[aBF,hlen];simp);obtain⟨cells',f1,f2,f3⟩:=NX parts vparts z0 c0 _ hl hp hc0 dY hfi;have hcs:z0.take (0*n)++ps.flatMap PD.cells++z0.drop ((0+ps.length)*n)=ps.flatMap PD.cells:=by
     rw[yAs (by rw[aBF,hlen];simp)];simp
    rw[hcs]at f2;have hfl:cells'.toList.length=len*n:=by rw[f2.1,D5 ps (λq hq=>(hps q hq).1),hlen]
    refine⟨e,cells',hu,?_,λw'' fz hgr hnew=>?_⟩
    .have hln:¬(len*n > 2^24):=by omega
     obtain⟨i',hi',hsz⟩:=aBD hn;have hfz:Instr.fill (λi=>some (i*n,n)) ((Array.range (len*n)).map λk=>(if len*n=0 then(#[]:Array Value)else zv.cells)[k%(if len*n=0 then(#[]:Array Value)else zv.cells).size]!) vparts=some cells':=by
      by_cases h0:len*n=0
      .simp only[h0,yAL];have:c0=#[]:=by simp[c0,h0]
       rw[this]at f1;rw[show(Array.range 0)=#[]from rfl];simpa using f1
      .simp only[h0,yAN];exact f1
     simp only[Instr.buildSlice,yAZ,yAM hu,yBk,nG hn,yAI hln]
     by_cases h0:len*n=0
     .simp only[h0,yAL]at hfz ⊢;simp only[yAZ,yBm,yBk,hfz];simp[newRow]
     .simp only[h0,yAN]at hfz ⊢;have JS:(zeroValue e).run P c.w=.ok zv c.w:=Ei;simp only[yAZ,yBm,yBk,JS,hfz];simp[newRow]
    .have nx:Nx 0 c (c.at w''):=Nx.grow hs hgr;refine .slice (some ⟨c.w.heap.size,0,none⟩) len len n ps .full cells'.toList hlen.symm (yAk _) ?_ (λq hq=>(hps q hq).1) hfl f3 ?_ (λj v d q1 q2=>(f2.2 j v d q1 q2).mono nx) rfl
     .have:len<=len*n:=Nat.le_mul_of_pos_right _ hn0;simp only[maxLen];omega
     .intro j v hv;have hadd:(⟨c.w.heap.size,0,none⟩:Addr).add j=⟨c.w.heap.size,j,none⟩:=Av;refine⟨_,rfl,?_,?_⟩
      .rw[hadd];show w''.cell? _=_
       simp only[World.cell?,hnew];simpa using hv
      .exact gp
   .exact ak
  .exact ak
 .exact ak
theorem aIr(hs:Sr c){t:TypeId}{len:Nat}{parts:List (Nat×PD)}{vparts:List (Nat×Value)}{p:PD}(h:uL P t len parts=some p)(hl:vparts.length=parts.length)
  (hp:∀(i:Nat) (jv:Nat×Value) (jp:Nat×PD),vparts[i]?=some jv->parts[i]?=some jp->jv.1=jp.1/\VR c jv.2 jp.2) :
  ∃v w',(Instr.buildSlice t len vparts.toArray).run P c.w=.ok v w'/\Leaves fl c p c.σ v w':=by
 obtain⟨e,cells',hu,hr,hv⟩:=aBw hs h hl hp;have hgr:=xS c.w (.cells cells' e);exact⟨_,_,hr,c.at (c.w.alloc (.cells cells' e)),rfl,rfl,Sr.grow hs hgr,Nx.grow hs hgr,hv _ (0,0) hgr (yBZ _ _),λ_ h=>.inl h⟩
theorem run_mark{t e:TypeId}(w:World)(cs:Array Value)(n cap:Nat)(hu:P.underlying t=some (.slice e))(he:P.underlying e=some (.int .u8)) :
  (convert t t (.slice (some ⟨w.heap.size,0,none⟩) n cap)).run P (w.alloc (.cells cs e))=.ok (.slice (some ⟨w.heap.size,0,none⟩) n cap) ((w.alloc (.cells cs e)).freeze ⟨w.heap.size,cs.size,none⟩ 1):=by
 have hsh:(w.alloc (.cells cs e)).shape? w.heap.size=some (e,cs.size):=by simp[World.shape?,World.alloc,-World.alloc_eq]
 simp[convert,yAM hu,yAM he,markStringish,hsh,Result.andThen]
theorem aIm(w:World)(e:TypeId)(cs:Array Value):∃fz,((w.alloc (.cells cs e)).freeze ⟨w.heap.size,cs.size,none⟩ 1).heap[w.heap.size]?=some (.cells cs e fz):=by
 refine⟨(cs.size,cs.size+1),?_⟩;simp[World.freeze,World.alloc,-World.alloc_eq];rw[Array.getElem_modify_self];simp
theorem aIl(w:World)(e:TypeId)(cs:Array Value):w.grownBy ((w.alloc (.cells cs e)).freeze ⟨w.heap.size,cs.size,none⟩ 1) none where
 os:=rfl
 tape:=rfl
 output:=rfl
 size:=by simp[World.freeze,World.alloc,-World.alloc_eq]
 block:=λk hk _=>by
  have h1:w.heap.size≠k:=Ah;simp[World.freeze,World.alloc,-World.alloc_eq,yDv,Array.getElem?_push,h1,yAW h1]
theorem aIS(w:World)(e:TypeId)(s:ByteArray):w.grownBy (Lib.bytesWorld w e s) none where
 os:=rfl
 tape:=rfl
 output:=rfl
 size:=by rw[Lib.bytesWorld_size];omega
 block:=λk hk _=>Lib.bytesWorld_at_old w e s k hk
theorem S9:∀ {xs:Gc} {l:Gd},DT xs=some l->∃ns:List Int,xs=ns.map (PD.int .u8)/\l=ns.map λn=>UInt8.ofNat n.toNat
 | [],l,h=>by simp only[DT,yAb]at h;subst h;exact⟨[],rfl,rfl⟩
 |x::xs,l,h=>by
  unfold DT at h;split at h
  .rename_i h0;cases h0
  .rename_i n r h0;simp only[yCb]at h0;obtain⟨rfl,rfl⟩:=h0;split at h
   .rename_i l' hl;simp only[yAb]at h;obtain⟨ns,rfl,rfl⟩:=S9 hl;exact⟨n::ns,rfl,h.symm⟩
   .cases h
  .cases h
theorem TC:∀(ns:List Int) (s:ByteArray),ns.foldl (λr n=>r.push (UInt8.ofNat n.toNat)) s=⟨s.data++(ns.map λn=>UInt8.ofNat n.toNat).toArray⟩
 | [],s=>Ai
 |n::ns,s=>by
  rw[yDm,TC ns];simp[ByteArray.push]
theorem aIs(hs:Sr c){s d:TypeId}{x p:PD}(h:I6 P s d x=some p){vx:Value}(hx:VR c vx x):∃v w',(convert s d vx).run P c.w=.ok v w'/\Leaves fl c p c.σ v w':=by
 unfold I6 at h;split at h
 .rename_i e l hu hd;split at h
  .rename_i he;split at h
   .rename_i hl;simp only[yAb]at h;subst h;have hv:=hx.sI;subst hv;have hsz:(ByteArray.mk l.toArray).size=l.length:=Eg;have hgr:=aIS c.w e ⟨l.toArray⟩;have r:=Lib.run_convert_string_bytes (P:=P) c.w s d e ⟨l.toArray⟩ hu hd he;have hge:=yDs c.w l.length 0 e;have hcm:=yDN c.w l.length 0 e hl;rw[hsz]at r;refine⟨_,_,r,c.at (Lib.bytesWorld c.w e ⟨l.toArray⟩),rfl,rfl,Sr.grow hs hgr,Nx.grow hs hgr,?_,λ_ h=>.inl h⟩;refine .slice (some ⟨c.w.heap.size,0,none⟩) l.length _ 1 _ .any (l.map λb=>Value.int .u8 b.toNat) Ai hge hcm (λq hq=>?_) Ai (λv hv=>?_) (λj v hv=>?_) (λj v q q1 q2=>?_) trivial
    .obtain⟨b,_,rfl⟩:=yAw.1 hq;rfl
    .obtain⟨b,_,rfl⟩:=yAw.1 hv;rfl
    .have hadd:(⟨c.w.heap.size,0,none⟩:Addr).add j=⟨c.w.heap.size,j,none⟩:=by unfold Addr.add;split<;>simp_all
     refine⟨_,rfl,?_,?_⟩
     .rw[hadd];have hj:j<l.length:=by simpa using(yA.1 hv).1
      have:=Lib.bytesWorld_cell c.w e ⟨l.toArray⟩ j (by rw[hsz];exact hj);show(Lib.bytesWorld c.w e ⟨l.toArray⟩).cell? _=_
      rw[this];rw[yAo,yAh hj]at hv;simp only[yAC,yAb]at hv;rw[<-hv];simp[List.getD,hj]
     .exact gp
    .have e1:∀l:List UInt8,(l.map λb=>PD.int .u8 b.toNat).flatMap PD.cells=l.map λb=>PD.int .u8 b.toNat:=by
      intro l
      induction l with
      |nil=>rfl
      |cons b l ih=>
       simp only[yAS,yBr,ih];rfl
     rw[e1,yAo]at q2;rw[yAo]at q1;cases hj:l[j]? with
     |none=>rw[hj]at q1;cases q1
     |some b=>
      rw[hj]at q1 q2;simp only[yAC,yAb]at q1 q2;subst q1 q2;exact .int _ _
   .cases h
  .cases h
 .rename_i e sz xs tok hu hd;split at h
  .rename_i he;split at h
   .rename_i hsz;split at h
    .rename_i l hl;simp only[yAb]at h;subst h;obtain⟨A,cap,eJ,rfl,h2,h3,h4,h5,h6,h7,h8,h9⟩:=hx.oF;obtain⟨ns,rfl,rfl⟩:=S9 hl;rw[yAe]at h2 h5 hsz ⊢;have hfl:eJ=ns.map (Value.int .u8):=by
      have hlen:eJ.length=ns.length:=by
       rcases hsz with h|h
       .rw[h5,h];simp
       .rw[h5,h];simp
      refine yCo λj=>?_
      by_cases hj:j<ns.length
      .have e1:((ns.map (PD.int .u8)).flatMap PD.cells)[j]?=some (.int .u8 ns[j]):=by
        have:∀ns:List Int,(ns.map (PD.int .u8)).flatMap PD.cells=ns.map (PD.int .u8):=by
         intro ns
         induction ns with
         |nil=>rfl
         |cons b l ih=>
          simp only[yAS,yBr,ih];rfl
        rw[this,yAo,yAh hj];rfl
       have:=(h8 j eJ[j] _ (yAh Ah) e1).pL;rw[yAh (show j<eJ.length by omega),yAo,yAh hj,this];rfl
      .rw[yBB Ah,yBB Aw]
     subst hfl;have hrun:(convert s d (.slice A ns.length cap)).run P c.w=.ok (.string ⟨(ns.map λn=>UInt8.ofNat n.toNat).toArray⟩) c.w:=by
      rw[run_convert_bytes_string c.w s d e A ns.length cap hu he hd];cases A with
      |none=>
       have:ns=[]:=by
        cases ns with
        |nil=>rfl
        |cons n ns=>
         obtain⟨ad,e',_⟩:=h7 0 _ rfl;cases e'
       subst this;simp[Conv.bytesToString,yBm];rfl
      |some a=>
       rw[run_bytesToString c.w a ns.length cap ns (BV Ai (λj v hj=>by
        obtain⟨ad,e',h10,_⟩:=h7 j v hj;cases e';exact h10)),TC]
       simp
     exact⟨_,_,hrun,c,rfl,rfl,hs,.refl _ _,.str _,λ_ h=>.inl h⟩
    .cases h
   .cases h
  .cases h
 .cases h
end
end
section
open Go.RowKit
section
variable{P:Program}{c:Cx}{fl:Nat}
theorem aIN(z:PD)(n l:Nat):(uU z n l).length=l*n:=by simp[uU]
theorem aIO{zv:Value}{z:PD}{n:Nat}(hz:VR c zv z)(hn:z.cells.length=n)(hn0:0<n)(l:Nat):aV c (madeCells zv.cells (l*n)).toList (uU z n l):=by
 have hzc:=hz.cells;have hzs:zv.cells.size=n:=El;refine⟨by simp[madeCells,uU],λk v d hv hd=>?_⟩;simp only[madeCells,uU,yDp,yDq,yAo]at hv hd;cases hk:(List.range (l*n))[k]? with
 |none=>simp[hk]at hv
 |some k'=>
  exact gq
theorem aIP{zv:Value}{z:PD}{n:Nat}(hz:VR c zv z)(hn:z.cells.length=n)(hn0:0<n)(hp:z.cells.all PD.plain=true)(l:Nat):∀v∈(madeCells zv.cells (l*n)).toList,v.oneCell'=true:=by
 have hzc:=hz.cells;have hzs:zv.cells.size=n:=El;have hz1:∀v∈zv.cells.toList,v.oneCell'=true:=aV.xT hzc hp;intro v hv;simp only[madeCells,yDp,yDq,yAw]at hv;exact mo
theorem aIQ{z:PD}{n l:Nat}(hn:z.cells.length=n)(hn0:0<n):(List.replicate l z).flatMap PD.cells=uU z n l:=by
 have hx:∀x∈List.replicate l z,x.cells.length=n:=λx hx=>by rw[(List.mem_replicate.1 hx).2];exact hn
 have hl:((List.replicate l z).flatMap PD.cells).length=l*n:=by rw[D5 _ hx,List.length_replicate]
 refine yCo λj=>?_
 by_cases hj:j<l*n
 .have hi:j/n<l:=Nat.div_lt_of_lt_mul (by rw[Nat.mul_comm];exact hj);have hm:j%n<n:=yBs _ hn0;have:=S7 n (List.replicate l z) hx (j/n) z (by simp[hi]) (j%n) hm;rw[Nat.div_add_mod']at this;rw[this];simp only[uU,yAo,List.getElem?_range hj,yAC];rw[yAh Ah];simp[List.getD,show j%n<z.cells.length by omega]
 .rw[yBB Ah,yBB (by rw[aIN];omega)]
theorem aIu(hs:Sr c){t e:TypeId}{l k:Nat}{p:PD}{σ':Gb}(hu:P.underlying t=some (.slice e))(h:vU P c.σ t e l k=some (p,σ'))(kl kk:IntKind) :
  ∃v w',(Instr.makeSlice t (.int kl (l:Int)) (.int kk (k:Int))).run P c.w=.ok v w'/\Leaves fl c p σ' v w':=by
 unfold vU at h;split at h
 .rename_i i n z hi hn hz;split at h
  .rename_i hc;obtain⟨hlk,hn0,hzl,hzp,hmax,hby⟩:=hc;obtain⟨zv,i',hi',hzv,hzr⟩:=D3 (c:=c) hz;rw[hi]at hi';obtain rfl:=yAU hi';obtain⟨i',hi',hsz⟩:=aBD hn;rw[hi]at hi';obtain rfl:=yAU hi';have hmx:(k:Int)<=9223372036854775807:=Eh;have hb':(i.bytes:Int)*(k:Int)<=281474976710656:=by
    have:((i.bytes*k:Nat):Int)<=281474976710656:=by rw[Nat.mul_comm];omega
    rwa [Int.natCast_mul]at this
   have hr:=run_make (P:=P) c.w t e i zv hu hi hzv kl kk l k Ah Ah hb' hmx;simp only[yBe]at hr;rw[hsz]at hr;have hgr:=xS c.w (.cells (madeCells zv.cells (k*n)) e);have hnew:=yBZ c.w (.cells (madeCells zv.cells (k*n)) e);have hsize:(madeCells zv.cells (k*n)).size=k*n:=size_madeCells _ _;split at h
   .rename_i h0;obtain⟨rfl,hk0⟩:=h0;simp only[yAb,yAc]at h;obtain⟨rfl,rfl⟩:=h;have hown:(c.w.alloc (.cells (madeCells zv.cells (k*n)) e)).ownsRowF 0 e n (.slice (some ⟨c.w.heap.size,0,none⟩) 0 k) 0 []:=
     ⟨Ai,.inr ⟨c.w.heap.size,k,_,(0,0),rfl,yAF _,hnew,yAF _,yAF _,hmax,hsize,Ai⟩⟩
    have hbk:∀b,bA (.slice (some ⟨c.w.heap.size,0,none⟩) 0 k)=some b->c.w.heap.size<=b:=λb hb=>En
    refine⟨_,_,hr,c.push (c.w.alloc (.cells (madeCells zv.cells (k*n)) e)) (.slice (some ⟨c.w.heap.size,0,none⟩) 0 k) (.own e n 0),rfl,rfl,?_,Nx.push hs hgr hbk,?_,?_⟩
    .exact Sr.push hs hgr (λb hb=>⟨hbk b hb,S8 hown hb⟩) ⟨_,hown⟩
    .exact .slice (some ⟨c.w.heap.size,0,none⟩) 0 k n [] (.own c.σ.length) [] rfl (yAF _) hmax Ai Ai Ai Ai Ai ⟨.inr rfl,e,0,gV.1,yAk _,λ_=>gV.2.1⟩
    .exact dj
   .split at h
    .rename_i aIR;subst aIR;have hcv:=aIO (c:=c) hzr hzl hn0 l;have dY:=aIP (c:=c) hzr hzl hn0 hzp l;split at h
     .simp only[yAb,yAc]at h;obtain⟨rfl,rfl⟩:=h;have hbk:∀b,bA (.pointer (some ⟨c.w.heap.size,0,none⟩))=some b->c.w.heap.size<=b/\b<(c.w.alloc (.cells (madeCells zv.cells (l*n)) e)).heap.size:=λb hb=>by
       simp[bA]at hb;subst hb;simp
      refine⟨_,_,hr,c.push (c.w.alloc (.cells (madeCells zv.cells (l*n)) e)) (.pointer (some ⟨c.w.heap.size,0,none⟩)) (.box (.agg (uU z n l))),rfl,rfl,?_,Nx.push hs hgr (λb hb=>(hbk b hb).1),?_,?_⟩
      .exact Sr.push hs hgr hbk ⟨_,madeCells zv.cells (l*n),e,rfl,hnew,hcv,dY,λt ds e=>Bj⟩
      .exact .dJ _ _ _ _ _ _ (.inr rfl) ⟨_,gV.1⟩ gV.2.1 (yAk _) hmax
      .exact dj
     .simp only[yAb,yAc]at h;obtain⟨rfl,rfl⟩:=h;have nx:Nx 0 c (c.at (c.w.alloc (.cells (madeCells zv.cells (l*n)) e))):=Nx.grow hs hgr;refine⟨_,_,hr,c.at (c.w.alloc (.cells (madeCells zv.cells (l*n)) e)),rfl,rfl,Sr.grow hs hgr,Nx.grow hs hgr,?_,λ_ h=>.inl h⟩;refine .slice (some ⟨c.w.heap.size,0,none⟩) l l n _ .full (madeCells zv.cells (l*n)).toList Ai (yAk _) hmax (λq hq=>by rw[(List.mem_replicate.1 hq).2];exact hzl) (by simp[hsize]) dY ?_ (λj v d q1 q2=>?_) (by simp[rC])
      .intro j v hv;have hadd:(⟨c.w.heap.size,0,none⟩:Addr).add j=⟨c.w.heap.size,j,none⟩:=Av;refine⟨_,rfl,?_,?_⟩
       .rw[hadd];show(c.w.alloc (.cells (madeCells zv.cells (l*n)) e)).cell? _=_
        simp only[World.cell?,hnew];simpa using hv
       .exact gp
      .rw[aIQ hzl hn0]at q2;exact(hcv.2 j v d q1 q2).mono nx
    .cases h
  .cases h
 .cases h
theorem aIt(hs:Sr c){s d:TypeId}{x p:PD}(h:BP P c.σ s d x=some p){vx:Value}(hx:VR c vx x):∃v,(convert s d vx).run P c.w=.ok v c.w/\VR c v p:=by
 unfold BP at h;split at h
 .rename_i xs e hxs hu hd;split at h
  .rename_i l he hl;simp only[yAb]at h;subst h;unfold zO at hxs;split at hxs
   .rename_i id off n size;split at hxs
    .split at hxs
     .rename_i q hq;split at hxs
      .rename_i hle;simp only[yAb]at hxs;subst hxs;obtain⟨b,cap,rfl,hD,_,hr,_,_⟩:=hx.D1;obtain⟨b',cs,T,e1,e2,e3,e4⟩:=hs.box id q hD hq;have hbb:b=b':=by
        rw[hr]at e1;simpa using e1
       subst hbb;obtain⟨ns,hns,rfl⟩:=S9 hl;have hlen:ns.length=n:=by
        have:=yAK List.length hns;rw[yAt,yBg,yAe]at this;omega
       have hcut:=e3.take_drop off n;rw[hns]at hcut;have hfl:(cs.toList.drop off).take n=ns.map (Value.int .u8):=by
        refine yCo λj=>?_
        cases hj:ns[j]? with
        |none=>
         have hge:=yEe.1 hj;rw[yBB (by have:=hcut.1;rw[yAe]at this;omega),yBB Aw]
        |some m=>
         obtain⟨v,rD,D7⟩:=hcut.get (i:=j) (d:=.int .u8 m) (by rw[yAo,hj];rfl);rw[rD,D7.pL,yAo,hj];rfl
       have hadd:∀j,(⟨b,off,none⟩:Addr).add j=⟨b,off+j,none⟩:=λj=>Av
       refine⟨.string ⟨(ns.map λn=>UInt8.ofNat n.toNat).toArray⟩,?_,.str _⟩;rw[run_convert_bytes_string c.w s d e (some ⟨b,off,none⟩) n cap hu he hd];rw[run_bytesToString c.w ⟨b,off,none⟩ n cap ns (by
        rw[BV (cs:=ns.map (Value.int .u8)) (by simp[hlen]) (λj v hj=>by
         rw[hadd];simp only[World.cell?,e2];rw[<-hfl,yAv]at hj;split at hj
         .exact ju
         .cases hj)]),TC]
       simp
      .cases hxs
     .cases hxs
    .cases hxs
   .cases hxs
  .cases h
 .cases h
end
end
end Go.Kz
