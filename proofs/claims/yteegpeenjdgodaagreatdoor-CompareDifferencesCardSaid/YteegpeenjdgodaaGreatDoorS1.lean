/- Steps of the proof. -/
import Derived.WalkKit
import Derived.Maps.AppendAt
import Derived.Lib.FrozenHead
import Derived.CallsIn
import Derived.Laws.StructEq
import Derived.Laws.Entries
import Derived.Laws.Tables
import Derived.ArgAppend
import Derived.Deep.DeepAppendRoom
import Derived.RangeFuncRecord
import Derived.Lib.ConvBytes
import Derived.Laws.BytesString
import Derived.Laws.MakeOwn
set_option linter.all false
set_option maxHeartbeats 40000000
set_option maxRecDepth 100000
namespace Go.Kz
section
variable{G:Prop}
theorem aa(h:G:=by
 simp(disch:=first|omega|(simp;done)|(simp;omega)) [yAu]<;>try rfl):G:=h
theorem af(h:G:=by
 simp at h):G:=h
theorem ag(h:G:=by
 simp(disch:=first|omega|(simp;done)|(simp;omega)) [yAu,bQ]<;>try rfl):G:=h
theorem ah(h:G:=by
 have cK:¬(l.length:Int)=(r.length:Int):=by omega
 have hF:=rC hq
 refine aC (A2 @hq cK) ?_
 simp(disch:=first|omega|(simp;done)|(simp;omega)) [yAu,hF]<;>try rfl):G:=h
theorem ai(h:G:=by
 refine bC.normal (m-1) (by omega) (by refine⟨i+1,?_⟩;exact bG (⟨by omega,hs⟩))):G:=h
theorem aj(h:G:=by
 exact⟨_,_,rfl,rfl,rfl⟩):G:=h
theorem ak(h:G:=by
 rw[yAJ]
 refine⟨?_,?_⟩
 .simp only[oP,yAn,yAU]
  intro k hk
  rw[GI,oE]at h3
  simp only[yAn,yAU,yBp,yBq]at h3
  have vV:=h3 k (by simpa using hk)
  simp only[yBp,yBq,yAn,yAU]
  rcases vV with vV|vV
  .exact .inl vV
  .refine .inr λi hi=>?_
   rcases vV i (by simpa using hi)with h|h
   .exact .inl (.inl h)
   .exact .inl (.inr h)
 .intro k i id ok oi hk hi hm hl hlo hid
  obtain⟨q1,q2⟩:=e2 k ok hk hm
  refine⟨q1,q2 id ?_⟩
  have hkl:=(yA.1 hk).1
  have hil:=(yA.1 hi).1
  have hmem:(yW (dQ.of ρ) ops.toList).getD i none∈L:=by
   rw[<-hL,GK,oE]
   refine yDe.2 ⟨k,yAU.2 hkl,?_⟩
   have a1:dZ cU ops.toList k=true:=by
    unfold dZ
    rw[hk]
    exact hm
   have a2:dZ dM ops.toList i=true:=by
    unfold dZ
    rw[hi]
    exact hl
   rw[yAJ a1]
   exact yDJ.2 ⟨i,yAU.2 hil,by rw[a2,hlo];rfl⟩
  obtain⟨a,ha,haB⟩:=WJ hB _ hmem
  rw[hft i id a hid ha]
  exact haB):G:=h
theorem aq(h:G:=by
 show w'.heap[b']?=_
 rw[h1 b' (fM e2) (λh=>hs.inj i id b' hi hd e' (by rw[e1];rfl) h)]
 exact e2):G:=h
theorem au(h:G:=by
 refine aC @hm ?_
 exact⟨_,_,rfl,rfl⟩):G:=h
theorem ax(h:G:=by
 exact⟨rfl,rfl,jZ trivial (by(first|rfl|(simp[];repeat(first|rfl|(apply And.intro)))|(simp[];done))) (by(first|rfl|(simp[];repeat(first|rfl|(apply And.intro)))|(simp[];done)))⟩):G:=h
theorem ay(h:G:=by
 simp(disch:=first|omega|(simp;done)|(simp;omega)) [yAu,hs]<;>try rfl):G:=h
theorem az(h:G:=by
 refine aC (A8 q1 q2 hi hir ha @hb j0 j1) ?_
 first|refine Wp.seq ?_|skip
 apply Wp.mE
 refine kH (A4 h1 hE j0 j1) ?_
 apply SQ.nil
 refine aC q1 ?_
 refine bC.normal (m-1) (by omega) ⟨i+1,_,bG (⟨by omega,hs⟩)⟩):G:=h
theorem bf(h:G:=by
 have km:=PB hb iL
 simp only[km]at k4
 rcases iL with rfl|rfl|rfl
 all_goals
  have hz:=h0
  refine aL.aN 166 h0 func18 (h:=?_)
  refine aC (A20 h1 k1 h2 k2 h3 k3 n1 n2 hOB jO jS dB c0 c1 c2 c3 w0 w1 w2 (A13 w3 @z0 z1 @z2 @z3 pR pD pC cR cD cC h4 k4)) ?_
  exact⟨.aP [fY,.int .i64 10],σ2.set 2 (.box fY),by simp[eF,w2,fY],.inl ⟨hb,rfl⟩⟩):G:=h
theorem bg(h:G:=by
 rw[h2.int_eq]
 obtain⟨⟨cs,T,fz,hheap,hh⟩,_⟩:=hs.jA.2 0 rfl
 have hcs:=hh.1 .u64 _ rfl
 have htab:Lib.TabIs prog c.w "internal/strconv.uint64pow10" .u64 Lib.pow10Tab:=by
  unfold Lib.TabIs World.var?
  have hg:prog.globalNamed "internal/strconv.uint64pow10" = some 0:=by kernel_rfl
  rw[hg]
  simp only[yCU,hheap]
  rw[hcs]
  rfl
 refine yBB (Tryz.strconv_Itoa n h0 h1 c.w htab) λe w' he=>?_
 obtain⟨rfl,k,os,rfl⟩:=he
 exact⟨_,rfl,⟨rfl,rfl,rfl,by simp[Go.Sort.grow],λi hi _=>by simp[Go.Sort.grow,yEk,hi]⟩,λ_=>.str _⟩):G:=h
theorem bh(h:G:=by
 rw[yBc hb]at hE
 refine aC (A3 q1 hi ha) ?_
 first|refine Wp.seq ?_|skip
 apply Wp.mE
 refine kH (A4 h1 hE hi ha) ?_
 apply SQ.nil
 refine aC q1 ?_
 refine bC.normal (m-1) (by omega) (by refine⟨i+1,?_⟩;exact dU (⟨by omega,hs,by omega⟩) @E9)):G:=h
theorem bl(h:G:=by
 show(c.w.putObj b x').heap[b']?=_
 rw[yCM (λe'=>hs.inj i id b' hi hd e (by rw[e1];rfl) (by rw[e'];exact hb))]
 exact e2):G:=h
theorem bp(h:G:=by
 refine aL.of he ⟨_,by simp only[aW,yAY,yAZ];rfl,?_⟩
 refine EF trivial ?_
 apply SQ.nil
 refine gG.normal ?_
 refine aC trivial ?_
 refine bC.normal (m-1) (by omega) (by refine⟨n,σ1,?_⟩;exact bG (⟨by omega,by omega,gT⟩))):G:=h
theorem bq(h:G:=by
 simpa using this):G:=h
theorem bt(h:G:=by
 have hu1:=zL
 simp(disch:=first|omega|(simp;done)|(simp;omega)) [yAu,qV,hu1]<;>try rfl
 first|exact⟨by kernel_rfl,rfl,rfl⟩ | exact⟨by kernel_rfl,rfl⟩):G:=h
theorem bu(h:G:=by
 show w'.heap[b']?=_
 rw[h1 b' (λe'=>hs.inj i id b' hi hd e (by rw[e1];rfl) (by rw[e'];exact hb))]
 exact e2):G:=h
theorem bw(h:G:=by
 unfold fT at hi
 split at hi
 .rename_i i h1
  split at hi
  .rename_i z0 h2
   split at hi
   .rename_i h3
    simp only[yAb,yAc]at hi
    obtain⟨rfl,rfl⟩:=hi
    have hmm:xs.length<=maxLen:=by simp only[maxLen];omega
    have hne:¬xs.length=0:=by omega
    have hone:=ho i z0 h1 h2
    have hfr:Tok.full.fresh=true:=rfl
    simp only[cX,ht,yAK,hu,u6,h1,h2,hz,yBZ,h3.1,h3.2,hone,yBx,yAT,yCB,hmm,hb,hfr,hne,yAN,yAO,yAp]
   .cases hi
  .cases hi
 .cases hi):G:=h
theorem bx(h:G:=by
 intro id hd
 rcases hd with hd|rfl
 .exact .inl hd
 .exact .inr ⟨yAk _,by simp⟩):G:=h
theorem bz(h:G:=by
 refine bC.normal (m-1) (by omega) ⟨i+1,true,_,bG (hF)⟩):G:=h
theorem cg(h:G:=by
 exact⟨_,_,hv,e1,λ_ _ h=>h⟩):G:=h
theorem cj(h:G:=by
 obtain⟨rfl,rfl⟩:=hcf
 rw[show sS 1=-1 from rfl]at k7
 have hz:=h0
 refine aL.aN 166 h0 func18 (h:=?_)
 refine aC (A20 h1 k1 h2 k2 h3 k3 n1 n2 hOB jO jS dB c0 c1 c2 c3 w0 w1 w2 (A20 w3 @z0 z1 @z2 @z3 pR pD pC cR cD cC h4 k4 h7 k7 u0 u1 u2 u3 (A8 @v0 @v1 @v2 @v3 y0 y1 y2 y3))) ?_
 exact⟨.aP [fY,.int .i64 14],σ3.set 2 (.box fY),by simp[eF,v2,fY],.inr (.inl ⟨λh=>h hb,⟨rfl,hhs.1 rfl⟩,rfl⟩)⟩):G:=h
theorem ck(h:G:=by
 simp only[aW,yAY,yAZ]
 try rfl):G:=h
theorem cm(h:G:=by
 refine aC (A11 @s1 e1 e2 s3 e3 w1 hρ fZ xr xv hx) ?_
 exact⟨_,_,rfl,oO⟩):G:=h
theorem cr(h:G:=by
 by_cases e:s=i
 .subst e
  simp only[yAK,hz]
  refine⟨?_,hst.bF (by omega) λid o h1 h2=>by rw[fQ id (by omega)];exact h2⟩
  rw[<-nI,yAj (by omega),iF]
 .simp only[e,yAN]
  obtain⟨d1,d2⟩:=hdone s h (by omega)
  refine⟨?_,d2.bF (yAk _) λid o h1 h2=>by rw[fQ id (by omega),vK id (hlt _ _ h2)];exact h2⟩
  rw[<-nI,yAd (yBb e)]
  exact d1):G:=h
theorem cu(h:G:=by
 refine aC b1 ?_
 simp(disch:=first|omega|(simp;done)|(simp;omega)) [yAu,qV]<;>try rfl
 exact⟨rfl,rfl⟩):G:=h
theorem cv(h:G:=by
 unfold dF oL
 split
 .exact absurd ⟨rfl,rfl⟩ (h1 _ _ _ _)
 .exact absurd ⟨rfl,rfl⟩ (h2 _ _)
 .simp only
  split
  .rename_i b hb
   split at hb
   .exact absurd ⟨rfl,rfl⟩ (h3 _ _)
   .rw[h]at hb;rw[yBe hb]
  .rename_i hb
   split at hb
   .exact absurd ⟨rfl,rfl⟩ (h3 _ _)
   .rw[h]at hb;cases hb):G:=h
theorem cw(h:G:=by
 refine⟨v,w',.inl ?_,hl⟩
 simp only[execOp,resolve,invoke,builtin,yBa,yBk,yBj]
 simp[r]):G:=h
theorem cy(h:G:=by
 have:xs≠[]:=λh=>by rw[h]at hp;simp at hp
 simp[fU,this]):G:=h
theorem cz(h:G:=by
 have:(if cap=l then(some ⟨b,off,none⟩:Option Addr)else(some ⟨b,off,none⟩:Option Addr).map (·.add (l*n)))=some ⟨b,off+l*n,none⟩:=by
  split
  .have:l=0:=by omega
   subst this
   simp
  .simp[Addr.add]
 simp only[Instr.sliceAt,Instr.slice,yBa,yAM hu,yBj,yDI,b3,mI hn,yBk,this]):G:=h
theorem de(h:G:=by
 intro i j b hi hj hne hb hb'
 by_cases e':i=id
 .subst e'
  rw[lT]at hb
  rw[fH (yBb hne)]at hb'
  exact hoth j b hj (yBb hne) hb' hb
 .rw[fH e']at hb
  by_cases e'':j=id
  .subst e''
   rw[lT]at hb'
   exact hoth i b hi e' hb hb'
  .rw[fH e'']at hb'
   exact hs.inj i j b hi hj hne hb hb'):G:=h
theorem di(h:G:=by
 refine cell (by simp only[fB,hu]) (λcs e=>?_)
 subst e
 simp[hu,Cell.okWide,Cell.ok]at hv):G:=h
theorem dj(h:G:=by
 simp(disch:=first|omega|(simp;done)|(simp;omega)) [yAu,l7,z]<;>try rfl):G:=h
theorem dm(h:G:=by
 apply yCp
 intro i
 simp only[Array.toList_modify,yAo,List.getElem?_modify,yCV,yAe]
 by_cases hij:j=i
 .subst hij
  have hlt:j<ents.toList.length:=(yA.1 g2).1
  simp only[g2,yAC,yAK,yAJ hlt];rfl
 .simp only[yAI hij,Option.map_map]
  cases ents.toList[i]?<;>simp):G:=h
theorem dw(h:G:=by
 simp only[hc]at h ⊢
 exfalso
 cases op with
 |box t x=>cases hop
 |call c=>
  obtain⟨callee,args,ts⟩:=c
  cases callee with
  |value f=>simp[pop,dL,cJ]at h
  |invoke r m=>simp[cU]at hm
  |builtin b=>cases b<;>first|(simp[cU]at hm;done)|cases hop
 |_=>simp[cU]at hm):G:=h
theorem dx(h:G:=by
 refine⟨⟨fr,σ,.aP [],none⟩::tr,?_,?_⟩
 .simp only[oH,hw,yAx,yAN,hka,h1]
 .intro j o' ho' hm
  cases j with
  |zero=>
   rw[TE.uR,TE.OT,TE.OU h1]
   exact⟨yAk _,λ_ _ _=>rfl⟩
  |succ j=>
   rw[TE.uR,TE.uR]
   exact h2 j o' (by simpa using ho') hm):G:=h
theorem dy(h:G:=by
 subst e
 rw[ho]at hoj;simp only[yAb]at hoj;subst hoj
 refine⟨?_,λhw=>?_,λhw=>?_⟩
 .simp[e1]
 .simp only[yAK]at hw ⊢
  simp only[yDL,yAN,e2]
  exact hrun hw
 .simp only[yAK]at hw ⊢
  simp only[yDL,yAN,e2]
  exact hskip hw):G:=h
theorem dz(h:G:=by
 rename_i hne
 refine pK.wpIn (ih hF h hs hX hf hm hr m _ λc1 a1 e1 hs1 j5 jD nQ=>?_)
 have:=hQ c1 a1 e1 hs1 j5 jD nQ
 obtain⟨x',aQ,ms1,σ1⟩:=r
 cases x' with
 |normal=>exact absurd h (hne _ _ _)
 |ret=>exact this
 |exit k=>exact this):G:=h
theorem ec(h:G:=by
 exact⟨_,_,rfl,oO⟩):G:=h
theorem ef(h:G:=by
 exact⟨h,by simp,λa ha b hb e=>hs (by simp at hb;rw[<-hb,<-e];exact ha)⟩):G:=h
theorem ei(h:G:=by
 rw[hadd]
 refine II (hs.fresh _ (yAk _)) (λid o hd ho hb=>?_)
 have:=hs.lt id _ hd hb
 simp at this):G:=h
theorem ek(h:G:=by
 have hkm:k'%n<n:=yBw _ hn0
 have j7:k'%n<zv.cells.size:=by omega
 have hlt2:k'%n<z.cells.length:=by omega
 simp[hk,hzs,hlt2]at hv hd
 subst hv;subst hd
 exact hzc.2 (k'%n) _ _ (by simp[j7]) (by simp[hlt2])):G:=h
theorem ep(h:G:=by
 rw[yAo]at hd
 cases h0:ds[i]? with
 |none=>rw[h0]at hd;cases hd
 |some d0=>
  rw[h0]at hd
  simp only[yAC,yAb]at hd
  subst hd
  exact ih k (by omega) u d0 (h2 i u d0 hu h0) (C9 hf (yAw.2 ⟨d0,yAE h0,rfl⟩))):G:=h
theorem eu(h:G:=by
 exact⟨_,_,hv,e1,λ_ _ h=>h.resize⟩):G:=h
theorem ew(h:G:=by
 exact hE hF hg hgo hs hX hv):G:=h
theorem ey(h:G:=by
 exact .int _ _):G:=h
theorem ez(h:G:=by
 have:(⟨b,off,none⟩:Addr).add (z.toNat*n)=⟨b,off+z.toNat*n,none⟩:=by unfold Addr.add;split<;>simp_all
 have hz:z<(len:Int):=by omega
 simp[Instr.indexAt,asIntOf,yAM hu,Instr.sureAddr,h0,hz,mI hn,this]):G:=h
theorem fe(h:G:=by
 exact absurd h (by decide)):G:=h
theorem ff(h:G:=by
 split at hst
 .split at hst
  .split at hst
   .simp only[yAb]at hst;subst hst;simp
   .cases hst
  .cases hst
 .cases hst):G:=h
theorem fj(h:G:=by
 exact⟨v,by simp[execOp,r],q⟩):G:=h
theorem fk(h:G:=by
 unfold vM
 generalize k%5=j at hlt
 match j,hlt with
 |0,_=>exact hx.2.2.2.2.1
 |1,_=>exact hx.2.2.2.2.2.1
 |2,_=>exact hx.2.2.2.2.2.2.1
 |3,_=>exact hx.2.2.2.2.2.2.2.1
 |4,_=>exact hx.2.2.2.2.2.2.2.2):G:=h
theorem fo(h:G:=by
 simp only[yAb,yAc]at hp ⊢
 obtain⟨rfl,rfl⟩:=hp
 exact⟨⟨rfl,rfl⟩,rfl⟩):G:=h
theorem fu(h:G:=by
 refine bC.normal (m-1) (by omega) (by refine⟨k+1,?_⟩;exact bG (⟨by omega,by omega,hkB⟩))):G:=h
theorem fy(h:G:=by
 have:(⟨b,off,none⟩:Addr).add (z.toNat*n)=⟨b,off+z.toNat*n,none⟩:=by unfold Addr.add;split<;>simp_all
 have hz:z<(m':Int):=by omega
 simp[Instr.indexAt,asIntOf,yAM hu,h0,hz,mI hn,this]):G:=h
theorem ga(h:G:=by
 refine bC.normal (m-1) (by omega) ⟨i+1,false,_,bG (hF)⟩):G:=h
theorem gh(h:G:=by
 split at h
 .rename_i hrec
  simp only[yAb,yAc]at h
  obtain⟨_,rfl,_⟩:=h
  rw[VJ l ms _ _ _ _ _ _ _ t x hrec (λo' ho'=>hn o' (by simp[ho'])),VI (hn o (by simp))]
 .cases h):G:=h
theorem gi(h:G:=by
 rw[TE.uR,TE.uR]
 exact h2 j o' (by simpa using ho') hm):G:=h
theorem gj(h:G:=by
 rename_i oV aQ σ2 hrec
 simp only[yAb,yAc]at h
 obtain⟨rfl,rfl,rfl⟩:=h
 exact lift p σ1 _ oV hrec rfl (λ_=>⟨by rw[<-hk];exact hp,rfl⟩) (λhf=>by rw[hw]at hf;cases hf)):G:=h
theorem gl(h:G:=by
 intro i b hi hb hlt
 by_cases e':i=id
 .subst e'
  rw[lT]at hb
  rcases h3 with h3|h3
  .exact⟨hi,by rw[<-h3];exact hb⟩
  .have:=h3 b hb;omega
 .rw[fH e']at hb;exact⟨hi,hb⟩):G:=h
theorem gm(h:G:=by
 split at hs
 .split at hs
  .split at hs
   .simp only[yAb]at hs
    exact⟨id,_,by simp[j6,h1,gJ],hs.symm⟩
   .simp at hs
  .simp at hs
 .simp at hs):G:=h
theorem gp(h:G:=by
 have:i=0:=by simpa using hle
 subst this
 refine⟨.slice z [] (match tok with|.full=>.full|.own id=>.own id|_=>.any),?_,z,[],rfl,.inl rfl,rfl,rfl⟩
 cases tok<;>simp[jY,hu,hi,kK,fK]):G:=h
theorem gq(h:G:=by
 obtain⟨q1,q2⟩:=aAz hb
 cases hx<;>cases hy<;>first|(exact absurd rfl (q1 _))|(exact absurd rfl (q2 _))|rfl|(exact(n1 _ _ _ _ rfl rfl).elim)|(exact(n2 _ _ rfl rfl).elim)):G:=h
theorem gr(h:G:=by
 obtain⟨j,hj,rfl⟩:=yAw.1 h
 have hj':=yAU.1 hj
 exact⟨_,OH (by omega) _,j,hj',rfl⟩):G:=h
theorem gu(h:G:=by
 refine⟨.int .i64 n,?_,.int _ _⟩
 simp[builtin,Builtin.len_,ht,hv,yAM hu,goInt]):G:=h
theorem gv(h:G:=by
 rw[eH (hs.bA id hp.1)]at hq1
 simp only[yAb,aB.row.injEq]at hq1
 obtain⟨rfl,rfl,rfl,rfl⟩:=hq1
 exact⟨yAk _,λ_=>⟨rfl,cap,by rw[lT];exact hr,by simp⟩⟩):G:=h
theorem gw(h:G:=by
 exact⟨v,c.w,.inl (by simp[execOp,r]),c,rfl,rfl,hs,.refl _ _,hv,λ_ h=>.inl h⟩):G:=h
theorem gy(h:G:=by
 intro j hj hlt
 by_cases e:j=i
 .subst e
  simp[htr]
 .simp only[yAI e]
  rw[h6 j (by omega) (by simp at hlt;omega),htr,show j-i=(j-(i+1))+1 by omega,yBT]):G:=h
theorem gz(h:G:=by
 rename_i oV aQ σ2 hrec
 simp only[yAb,yAc]at h
 obtain⟨rfl,rfl,rfl⟩:=h
 exact lift (.aP []) σ none oV hrec rfl (λht=>absurd ht hw) (λ_=>⟨rfl,rfl⟩)):G:=h
theorem ia(h:G:=by
 exact KX (λk=>⟨yAF _,B8,D4,zY,yAF _⟩) _ x hx):G:=h
theorem ic(h:G:=by
 refine aI.aN 31 h0 func124 (h:=?_)
 refine aC (A13 h1 h2 @a @a2 @b b2 @c @e hM hG @w q1 @q) ?_
 simp(disch:=first|omega|(simp;done)|(simp;omega)) [yAu,q]<;>try rfl):G:=h
theorem ij(h:G:=by
 simp(disch:=first|omega|(simp;done)|(simp;omega)) [yAu,aM.mk.injEq,hne]<;>try rfl):G:=h
theorem iq(h:G:=by
 intro i hi
 simp only[Cx.put,yAD]
 exact hs.bA i hi):G:=h
theorem ir(h:G:=by
 by_cases e:i=id
 .subst e;exact lT
 .exact fH e):G:=h
theorem iu(h:G:=by
 rw[eH (hs.bA id hp.1)]at hq1
 simp only[yAb,aB.row.injEq]at hq1
 obtain⟨rfl,rfl,rfl,rfl⟩:=hq1
 exact⟨yAk _,λ_=>⟨rfl,C2,lT,by simp⟩⟩):G:=h
theorem iw(h:G:=by
 unfold pU at h4
 rcases h4 with⟨rfl,rfl,rfl,rfl,rfl⟩ | ⟨rfl,rfl,rfl,rfl,rfl⟩ | ⟨rfl,rfl,rfl,rfl,rfl⟩ | ⟨rfl,rfl,rfl,rfl,rfl⟩<;>kernel_rfl):G:=h
theorem iy(h:G:=by
 rw[yAo]at hd
 cases hx:ds[i]? with
 |none=>rw[hx]at hd;simp at hd
 |some x=>
  rw[hx]at hd;simp only[yAC,yAb]at hd;subst hd
  exact ih i v x hv hx):G:=h
theorem iz(h:G:=by
 rw[yBl]at hj
 simpa using hj):G:=h
theorem ja(h:G:=by
 simp only[yAb]at e hp'
 subst hp'
 rw[e];exact hp):G:=h
theorem jb(h:G:=by
 rw[<-nI]at h
 rcases yCP h with h|h
 .exact jK g h
 .rw[h];rfl):G:=h
theorem jc(h:G:=by
 simp only[e1]
 rw[gO h]
 rfl):G:=h
theorem jd(h:G:=by
 subst e1
 subst e2
 simp only[yAK]at e
 simp only[hz]at k k' l l' p1 p2
 exact⟨rfl,hst.inj s s' g g' k k' l l' p1 p2 e⟩):G:=h
theorem je(h:G:=by
 have h1:=(yA.1 e4).1
 refine⟨?_,by omega⟩
 by_cases h0:i=0
 .rw[e3 h0];omega
 .rw[e2 (by omega)];exact(hrow (by omega)).1):G:=h
theorem jf(h:G:=by
 obtain⟨N,h⟩:=h
 exact .step (N:=N) λn hn=>by
  simp only[gS,h n hn]
  obtain⟨x,a,b,c⟩:=r
  cases x<;>first|exact absurd rfl hr|rfl):G:=h
theorem jg(h:G:=by
 rcases I2 h1 h2 with⟨hb,h⟩ | ⟨hb,hc,h⟩ | ⟨hb,hc,h⟩
 .rw[yAI hb]
  exact h
 .exact hc.elim
 .rw[yAJ (yDf.1 hb)]
  exact h):G:=h
theorem jh(h:G:=by
 exact⟨⟨o1.plain.1,o1.plain.2,o1.nE (by decide) (λt ht=>ht.elim id False.elim) (N6 hg rfl) (hA.dA way i λ_=>hy) (tI o3)⟩,o2,o3⟩):G:=h
theorem ji(h:G:=by
 cases e';exact h9):G:=h
theorem jj(h:G:=by
 have:=Leaves.of (p:=.bool false) (v:=.bool false) AP (QV.trans HX) (.bool false)
 rw[w4,e4,e3]at this
 exact this):G:=h
theorem jk(h:G:=by
 unfold pV at h4
 rcases h4 with⟨rfl,rfl,rfl,rfl⟩ | ⟨rfl,rfl,rfl,rfl⟩ | ⟨rfl,rfl,rfl,rfl⟩ | ⟨rfl,rfl,rfl,rfl⟩<;>kernel_rfl):G:=h
theorem jl(h:G:=by
 have hp:0<l.length:=by omega
 exact N2 (hr hp) h1 (hg hp) (by rw[hl hp];exact yAk _) l rfl (λi hi=>h i hi (by rw[hl hp];exact hi)) K):G:=h
theorem jm(h:G:=by
 cases i with
 |zero=>simp at hv hd;subst hv;subst hd;exact a1
 |succ i=>exact b2 i v' d (by simpa using hv) (by simpa using hd)):G:=h
theorem jn(h:G:=by
 rcases h3 with h3|h3
 .exact hs.inj i id b hi hd hne hb (by rw[<-h3];exact hb')
 .have:=h3 b hb'
  have:=hs.lt i b hi hb
  omega):G:=h
theorem jo(h:G:=by
 have hne:i+(o::rest).length≠i:=by simp
 simp only[yAI hne]
 rw[show i+(o::rest).length=i+1+rest.length by simp;omega];exact e3):G:=h
theorem jq(h:G:=by
 have hne:i+(o::rest).length≠i:=by simp
 simp only[yAI hne]
 rw[show i+(o::rest).length=i+1+rest.length by simp;omega];exact e4):G:=h
theorem jr(h:G:=by
 obtain⟨ad,q1,q2,_⟩:=a6 j v hj
 exact⟨ad,q1,q2⟩):G:=h
theorem js(h:G:=by
 have hm':=hm
 rw[EG,oE]at hm'
 simp only[yAn,yAU,yBp,yBq]at hm'
 have:=hm' i hi
 rw[dZ,ho]at this
 simpa [wK]using this):G:=h
theorem jt(h:G:=by
 simp only[yAQ,yAO]at hdm
 refine aC (A2 q4 hdm) ?_
 simp(disch:=first|omega|(simp;done)|(simp;omega)) [yAu,hdm]<;>try rfl):G:=h
theorem ju(h:G:=by
 intro i b hi hb
 by_cases e':i=id
 .subst e';rw[lT]at hb;exact h5 b hb
 .rw[fH e']at hb;exact yBP (hs.lt i b hi hb) h0.2.2.2):G:=h
theorem jw(h:G:=by
 obtain⟨N,h⟩:=h
 obtain⟨M,k⟩:=k
 exact .step (N:=max N M) λn hn=>by simp only[gS,h n (by omega)];exact k n (by omega)):G:=h
theorem jx(h:G:=by
 have e:=(yA.1 (h.at_ i h2).1).2
 rw[e]
 exact(h.at_ i h2).2.DE):G:=h
theorem jy(h:G:=by
 obtain⟨d1,d2⟩:=hdone s h (by omega)
 exact⟨d1,d2.bF (by omega) λid o h1 h2=>by rw[fQ id (by omega)];exact h2⟩):G:=h
theorem jz(h:G:=by
 exact⟨⟨o1.plain.1,o1.plain.2,o1.nE (by decide) (λt ht=>ht) (N6 hg rfl) (hA.dA way i λ_=>hy) (tI o3)⟩,o2,o3⟩):G:=h
theorem kf(h:G:=by
 rw[yAg (yA.1 h).1]
 exact h):G:=h
theorem kg(h:G:=by
 obtain⟨k,_,rfl⟩:=hv
 have j7:k%zv.cells.size<zv.cells.size:=yBw _ (by omega)
 apply hz1
 simp[j7]):G:=h
theorem ki(h:G:=by
 obtain⟨b1,b2,e1,e2,e3,e4,e5⟩:=key _ xs ys h
 exact⟨b1,b2,e1,e2,e3,by simpa using e4,by simpa using e5⟩):G:=h
theorem kj(h:G:=by
 refine⟨v,w',.inl ?_,hl⟩
 simp only[execOp,resolve,invoke,builtin,yBa,yBk,yBj]
 simp[hx2,r]):G:=h
theorem ko(h:G:=by
 simp only[yAb]at ha
 subst ha
 simpa only[j6,aX]using h):G:=h
theorem kr(h:G:=by
 simp only[yBf]at hv
 rcases hv with(hv|hv)|hv
 .exact h1c v (yAy hv)
 .exact vW v hv
 .exact h1c v (yBg hv)):G:=h
theorem ku(h:G:=by
 simp only[yAb,yAc]at h;exact h.2.symm):G:=h
theorem kz(h:G:=by
 have:mU P call fl ops fr σ=some (fr',σ'):=by
  unfold mU
  simp only[hr,yAK,hh,hd,hf]
 unfold lB
 rw[this]):G:=h
theorem ld(h:G:=by
 rw[yDh,yAH]
 congr 1
 simp[yAA,hi,ha]):G:=h
theorem lf(h:G:=by
 have h1:=h d (yBh ..)
 have h2:=ih λx hx=>h x (yBV _ hx)
 simp only[yAR,List.sum_cons,yAS]
 omega):G:=h
theorem lp(h:G:=by
 intro i p hi hp
 have e':i≠id:=by rintro rfl;rw[hq]at hp;cases hp
 exact⟨fH e',p,by rw[dC e'];exact hp⟩):G:=h
theorem lq(h:G:=by
 exact⟨v,by simp[Instr.loadAt,Instr.sureAddr,r],q⟩):G:=h
theorem lu(h:G:=by
 refine hkeep _ _ (λe e2=>?_) h1
 rw[e2,sD e]at h1
 exact absurd (aB.row.inj (yBe h1)).1 (by decide)):G:=h
theorem lz(h:G:=by
 cases e with
 |returned v=>exact hK v w'' he
 |panicked chain=>exact he.elim
 |outgrown=>exact he.elim):G:=h
theorem mb(h:G:=by
 exact HP hU l (i+1) _ _ _ ho.2 h):G:=h
theorem mc(h:G:=by
 refine aC (A6 h1 hF @b @w @c @e) ?_
 simp(disch:=first|omega|(simp;done)|(simp;omega)) [yAu,b,c,e]<;>try rfl):G:=h
theorem me(h:G:=by
 simp only[yBT]at h1 hf
 exact OE l ms _ _ _ _ _ _ _ j t id o' hrec h1 ha (by simpa [GD]using hu) hf):G:=h
theorem mg(h:G:=by
 refine bC.normal (m-1) (by omega) (by refine⟨i+1,jX,?_⟩;exact bG (⟨by omega,by rw[hst];exact hs⟩))):G:=h
theorem mh(h:G:=by
 simp only[execOp,resolve,e,Deferred.ofValue,yBa,yBk,yBj,invoke,callFunc,run_program,hfn,hn,hb',yAx,yAN,e2]):G:=h
theorem mj(h:G:=by
 intro i hi hn
 have e':i≠id:=by rintro rfl;rw[hq]at hn;exact hn
 exact⟨fH e',by rw[dC e'];exact hn⟩):G:=h
theorem mm(h:G:=by
 simp only[Instr.storeAt,Instr.sureAddr,yBa,yBk,yBj,storeVar,mI hn,hsz,ne_eq,yBL,yAN]
 exact hst):G:=h
theorem mo(h:G:=by
 obtain⟨r,_,rfl⟩:=yAw.1 h
 rfl):G:=h
theorem mu(h:G:=by
 exact absurd e (by decide)):G:=h
theorem mw(h:G:=by
 simp only at h ⊢
 split at h
 .rename_i p σ1 hp
  rw[LZ hp]
  exact L1 h
 .cases h):G:=h
theorem mz(h:G:=by
 have:=LJ 12 t ks _ _ _ _ b h (.inl ⟨ha,rfl⟩) (.inl ⟨ha,rfl⟩) hc
 simp only[dF,oL,hg,yAx,yAN,this]):G:=h
theorem ng(h:G:=by
 refine aC (A3 @a @b @c) ?_
 simp(disch:=first|omega|(simp;done)|(simp;omega)) [yAu,tF,a,b,c]<;>try rfl):G:=h
theorem nh(h:G:=by
 intro i hi _
 exact dC (by omega)):G:=h
theorem ni(h:G:=by
 obtain⟨e,he,hb⟩:=Array.any_eq_true'.1 this
 simp only[yAr,yCd]at hb
 exact⟨e,he,hb.1,hb.2⟩):G:=h
theorem nj(h:G:=by
 simp only[oH,hw,yAK,hka,yAx,yAN]
 rw[L3 (hsh o (by simp)) hka]
 simp only[Bool.or_true,hst.1,h1]):G:=h
theorem nk(h:G:=by
 have:id≠i:=λe=>by
  subst e
  rw[h]at h2
  exact ho _ _ _ (yBe h2)
 rw[yAd this]
 exact h):G:=h
theorem nq(h:G:=by
 refine aC (A3 @a @b @c) ?_
 simp(disch:=first|omega|(simp;done)|(simp;omega)) [yAu,lK,a,b,c]<;>try rfl):G:=h
theorem nr(h:G:=by
 refine aC (A2 @a @c) ?_
 simp(disch:=first|omega|(simp;done)|(simp;omega)) [yAu,tF,a,c]<;>try rfl):G:=h
theorem nt(h:G:=by
 refine aC (A2 @a @b) ?_
 simp(disch:=first|omega|(simp;done)|(simp;omega)) [yAu,kV,a,b]<;>try rfl):G:=h
theorem nu(h:G:=by
 obtain⟨q,σ1,h1,rfl⟩:=key.ex
 exact⟨q,h1⟩):G:=h
theorem nw(h:G:=by
 rw[yAI e1,yAI e2]at e
 exact hiW d d' s s' g g' h h' k k' l l' (by omega) (by omega) p1 p2 e):G:=h
theorem ny(h:G:=by
 obtain⟨q,σ1,h1,rfl,rfl⟩:=key.ex
 exact h1):G:=h
theorem oa(h:G:=by
 refine aC (A2 @a @b) ?_
 simp(disch:=first|omega|(simp;done)|(simp;omega)) [yAu,a,b]<;>try rfl):G:=h
theorem ob(h:G:=by
 have e:iO.dec (.int .u8 f)=some f:=Em.cO rfl
 unfold entry bZ
 simp only[e]
 rw[gO hf]
 rfl):G:=h
theorem oe(h:G:=by
 simp[Instr.sliceAt,Instr.slice,yAM hu,b3,mI hn]):G:=h
theorem og(h:G:=by
 simp only[yBi,yAa]at this ⊢
 omega):G:=h
theorem oh(h:G:=by
 exact⟨v,by simp[hg,r],q⟩):G:=h
theorem om(h:G:=by
 have:=oT ho
 have h2:ops.toList.length<=i:=List.drop_eq_nil_iff.1 hdrop
 simp at h2;omega):G:=h
theorem oq(h:G:=by
 cases A<;>simp[Builtin.append_,yAM hu,sizeOf,typeInfo,hi,Builtin.lenOf,hfy,hn,storeCells]):G:=h
theorem ot(h:G:=by
 split at h
 .simp only[yAb,yAc]at h
  obtain⟨rfl,_,_⟩:=h
  rfl
 .cases h):G:=h
theorem ou(h:G:=by
 subst this
 simp[Builtin.firstCells]):G:=h
theorem ow(h:G:=by
 cases cJ P fl fr σ op with
 |none=>rfl
 |some x=>obtain⟨p,σ'⟩:=x;simp[M8,aAV]):G:=h
theorem oz(h:G:=by
 unfold kF
 rw[yAt,yBd,yBi,hcur]
 exact kk):G:=h
theorem pg(h:G:=by
 simp only[PD.cells]at hdm
 simp only[PD.bI,PD.rI]at hxf
 exact yAn.1 hxf d hdm):G:=h
theorem pq(h:G:=by
 rw[yAI e1,yAI e2]at e
 exact hinj s s' g g' h h' k k' (by omega) (by omega) p1 p2 e):G:=h
theorem qe(h:G:=by
 show(Instr.checkKey e (9999+1) kt _).run P w=_
 unfold Instr.checkKey
 simp[yAM hu]):G:=h
theorem qf(h:G:=by
 simp only[yAb,yAc]at hp ⊢
 exact⟨⟨hp.1,by rw[hp.2]⟩,by rw[hp.2]⟩):G:=h
theorem qg(h:G:=by
 rename_i hx
 have e:=(dO hf hx).yL
 exact⟨_,by simp[execOp,e,asBool],dO hf h⟩):G:=h
theorem qh(h:G:=by
 rintro rfl
 rw[eH (hs.bA i hd)]at hi'
 simp only[yAb]at hi';subst hi';exact hn'):G:=h
theorem qi(h:G:=by
 cases b1 with
 |true=>simpa [e3]using q2
 |false=>simp[e3]):G:=h
theorem qj(h:G:=by
 intro i j b' hi hj hne h5 h6
 rw[hρ]at h5 h6
 exact hs.inj i j b' hi hj hne h5 h6):G:=h
theorem qk(h:G:=by
 simp only[yBM]at e
 rw[e.1]
 rfl):G:=h
theorem ql(h:G:=by
 exact⟨.pointer (some ⟨b,off,none⟩),by simp[execOp,e],by rw[<-e];exact hv⟩):G:=h
theorem qm(h:G:=by
 rw[hu]at hv
 obtain⟨cs,e,_⟩:=hv
 exact row (by simp only[fB,hu]) ⟨cs,e⟩):G:=h
theorem qo(h:G:=by
 simp(disch:=first|omega|(simp;done)|(simp;omega)) [yAu,bB.mk.injEq,e0]<;>try rfl):G:=h
theorem qp(h:G:=by
 simp(disch:=first|omega|(simp;done)|(simp;omega)) [yAu,bB.mk.injEq,e1]<;>try rfl):G:=h
theorem qq(h:G:=by
 simp(disch:=first|omega|(simp;done)|(simp;omega)) [yAu,bB.mk.injEq,e2]<;>try rfl):G:=h
theorem qt(h:G:=by
 simp(disch:=first|omega|(simp;done)|(simp;omega)) [yAu,bB.mk.injEq,e3]<;>try rfl):G:=h
theorem qu(h:G:=by
 simp(disch:=first|omega|(simp;done)|(simp;omega)) [yAu,bB.mk.injEq,e4]<;>try rfl):G:=h
theorem qv(h:G:=by
 simp(disch:=first|omega|(simp;done)|(simp;omega)) [yAu,bU.mk.injEq,e0]<;>try rfl):G:=h
theorem qw(h:G:=by
 simp(disch:=first|omega|(simp;done)|(simp;omega)) [yAu,bU.mk.injEq,e1]<;>try rfl):G:=h
theorem qx(h:G:=by
 simp(disch:=first|omega|(simp;done)|(simp;omega)) [yAu,bU.mk.injEq,e2]<;>try rfl):G:=h
theorem qy(h:G:=by
 simp(disch:=first|omega|(simp;done)|(simp;omega)) [yAu,bD.mk.injEq,e0]<;>try rfl):G:=h
theorem qz(h:G:=by
 simp(disch:=first|omega|(simp;done)|(simp;omega)) [yAu,bD.mk.injEq,e1]<;>try rfl):G:=h
theorem ri(h:G:=by
 simp(disch:=first|omega|(simp;done)|(simp;omega)) [yAu,bD.mk.injEq,e2]<;>try rfl):G:=h
theorem rj(h:G:=by
 simp(disch:=first|omega|(simp;done)|(simp;omega)) [yAu,bD.mk.injEq,e3]<;>try rfl):G:=h
theorem rm(h:G:=by
 simp(disch:=first|omega|(simp;done)|(simp;omega)) [yAu,aM.mk.injEq,e0]<;>try rfl):G:=h
theorem rq(h:G:=by
 have:s=⟨s.data.toList.toArray⟩:=by simp
 conv=>lhs;rw[this]
 exact .str _):G:=h
theorem ru(h:G:=by
 simp only[yBd]at hz
 exact YZ h1 (by rw[h2,hlen]) (by omega)):G:=h
theorem rz(h:G:=by
 have:(j+1)*n<=(j+1+qs.length)*n:=yBK _ (by omega)
 rw[yBu]at this;omega):G:=h
theorem si(h:G:=by
 simp only[dE,yAb]at h
 subst h
 exact⟨[],rfl,λj o h=>by simp at h⟩):G:=h
theorem sj(h:G:=by
 obtain⟨r,h1,p1,σ1,h2,h3⟩:=h.ex
 exact⟨p1,σ1,.body hE hf hb h1 h2,h3⟩):G:=h
theorem so(h:G:=by
 rw[yAI e1,yAI e2]at e
 exact hiS d d' h h' (by omega) (by omega) p1 p2 e):G:=h
theorem su(h:G:=by
 rw[yAJ h1]
 exact⟨λe=>absurd e h1,λe=>absurd (e.1 r (yBh ..)) h1⟩):G:=h
theorem sv(h:G:=by
 exact XJ rfl (by simp[jB,hW.symm];rfl)):G:=h
theorem sw(h:G:=by
 obtain⟨ad,e',_⟩:=a6 0 flx[0] (by simp[this])
 cases e'):G:=h
theorem sy(h:G:=by
 unfold dZ at this that
 rw[ho']at this that
 exact⟨this,that⟩):G:=h
theorem tc(h:G:=by
 rcases hsz with h0|h0
 .rw[a4,h0];simp
 .rw[a4,h0]):G:=h
theorem td(h:G:=by
 exact⟨xs,AT hx (λg hg=>h.block g (hs.lt id g hd hg) (by simp))⟩):G:=h
theorem tf(h:G:=by
 rcases yBf.1 h with h|h
 .exact .inl (yAy h)
 .exact .inl (yBg h)):G:=h
theorem tj(h:G:=by
 rw[dif_pos hx]
 exact yAL some ((Classical.choose_spec hx).2.unique h)):G:=h
theorem tq(h:G:=by
 exact .agg cs ds hl h1 (λi v d hv hd=>ih i v d hv hd (at_ hp hd))):G:=h
theorem tw(h:G:=by
 simp only[yAb]at h ⊢
 subst h
 rw[yDZ _ _ hlt]):G:=h
theorem ua(h:G:=by
 split at v1
 .rename_i hq
  rw[hk _ _ hq]
  exact v1
 .cases v1):G:=h
theorem uc(h:G:=by
 obtain⟨i,hi⟩:=yDd ho
 exact hr.shape i o (by simpa using hi)):G:=h
theorem ud(h:G:=by
 simp only[yAb]at ho
 exact⟨_,_,_,ho.symm,hj⟩):G:=h
theorem ue(h:G:=by
 simp only[yAb,yAc]at hrun ⊢
 exact⟨hrun.1,trivial⟩):G:=h
theorem uf(h:G:=by
 exact .aP cs ds hl (λi v d hv hd=>ih i v d hv hd (at_ hp hd))):G:=h
theorem ug(h:G:=by
 simp only[yAb]at h;subst h
 exact⟨by simpa [PD.cells],rfl⟩):G:=h
theorem uh(h:G:=by
 rw[yAJ h1]
 exact⟨λe=>absurd e h1,λe=>absurd e.1 h1⟩):G:=h
theorem uj(h:G:=by
 rw[hB]at k2 ⊢
 clear hB hK
 simp only[eI,aV]at k1 k2 ⊢
 have hz:=h0
 refine aI.aN 61 h0 func43 (h:=?_)
 refine aC (A4 h1 k1 h2 k2) ?_
 exact aa):G:=h
theorem uk(h:G:=by
 rintro m fr σ ⟨i,gg,hI,rfl,rfl⟩
 obtain⟨hm,hs⟩:=hI
 by_cases hi:i<l.length
 .have q1:(i:Int)<(l.length:Int):=by omega
  have hir:i<r.length:=by omega
  have q2:(i:Int)<(r.length:Int):=by omega
  obtain⟨a,ha⟩:=gn (l[i])
  obtain⟨b,hb⟩:=gn (r[i])
  have dI:l.drop i=a::l.drop (i+1):=by rw[yAq hi,ha]
  have hc2:r.drop i=b::r.drop (i+1):=by rw[yAq hir,hb]
  rw[dI,hc2,rB]at hs
  obtain⟨a0,a1⟩:=a
  obtain⟨b0,b1⟩:=b
  by_cases e0:a0=b0
  rotate_left
  .rw[show decide ((⟨a0,a1⟩:cT)=⟨b0,b1⟩)=false by simp[e0],yAX]at hs
   refine aC (A7 q1 q2 hi hir ha @hb @e0) ?_
   exact ay
  by_cases e1:a1=b1
  rotate_left
  .rw[show decide ((⟨a0,a1⟩:cT)=⟨b0,b1⟩)=false by simp[e1],yAX]at hs
   refine aC (A8 q1 q2 hi hir ha @hb @e0 e1) ?_
   exact ay
  rw[show decide ((⟨a0,a1⟩:cT)=⟨b0,b1⟩)=true by simp[e0,e1],yBm]at hs
  refine aC (A8 q1 q2 hi hir ha @hb @e0 e1) ?_
  exact ai
 .have q1:¬(i:Int)<(l.length:Int):=by omega
  rw[yAs (by omega),yAs (by omega)]at hs
  have bQ:B=true:=hs.symm
  refine aC q1 ?_
  exact ag):G:=h
theorem um(h:G:=by
 have bQ:B=false:=hs.symm
 refine aC (A8 q1 q2 hi hir ha @hb j0 j1) ?_
 first|refine Wp.seq ?_|skip
 apply Wp.mE
 refine kH (A4 h1 hE j0 j1) ?_
 apply SQ.nil
 refine aC q1 ?_
 exact ag):G:=h
theorem uo(h:G:=by
 rw[yAs (by omega),yAs (by omega)]at hs
 have bQ:B=true:=hs.symm
 refine aC q1 ?_
 exact ag):G:=h
theorem uq(h:G:=by
 have q1:¬(i:Int)<(l.length:Int):=by omega
 rw[yAs (by omega),yAs (by omega)]at hs
 have bQ:B=true:=hs.symm
 have q2:¬(i:Int)<(r.length:Int):=by omega
 refine aC (A2 q1 q2) ?_
 exact ag):G:=h
theorem ur(h:G:=by
 have bQ:B=(i:Int):=hs.symm
 have vP:V=i+1:=by omega
 rw[yAV hb]at hE
 rw[bQ,vP,BO]
 clear hs bQ
 refine aC (A3 q1 hi ha) ?_
 first|refine Wp.seq ?_|skip
 apply Wp.mE
 refine kH (A4 h1 hE hi ha) ?_
 apply SQ.nil
 refine aC q1 ?_
 exact aj):G:=h
theorem uu(h:G:=by
 refine aC q1 ?_
 exact ag):G:=h
theorem uv(h:G:=by
 rcases hr.inv with⟨σ1,he,gT⟩ | he
 .exact bp
 .refine aL.of he ⟨_,by simp only[aW,yAY,yAZ];rfl,?_⟩
  refine EF trivial ?_
  apply SQ.nil
  refine gG.normal ?_
  refine aC trivial ?_
  exact aa):G:=h
theorem uw(h:G:=by
 have q1:¬(i:Int)<(l.length:Int):=by omega
 obtain rfl:i=l.length:=by omega
 rw[yCm]at hs hv
 have bQ:B=-1:=hs.symm
 have vP:V=l.length:=by simpa [jL]using hv.symm
 rw[bQ,vP]
 refine aC q1 ?_
 exact aj):G:=h
theorem ux(h:G:=by
 refine aC trivial ?_
 exact aa):G:=h
theorem uy(h:G:=by
 intro i st fr ps asg bd hi hm
 have e':i≠id:=by rintro rfl;rw[eH (hs.bA i hd)]at hm;cases hm
 rw[dC e']at hm
 obtain⟨b',r,e1,e2,e3,e4,e5,e6,e7⟩:=hs.loop i st fr ps asg bd hi hm
 refine⟨b',r,(fH e').trans e1,?_,e3,e4,e5,e6.mono nx,e7⟩
 exact aq):G:=h
theorem uz(h:G:=by
 intro i es hi ho
 have e':i≠id:=by rintro rfl;rw[eH (hs.bA i hd)]at ho;cases ho
 rw[dC e']at ho
 obtain⟨b',ents,clock,e1,e2,e3,e4⟩:=hs.map i es hi ho
 refine⟨b',ents,clock,(fH e').trans e1,?_,e3.mono nx,e4.mono nx⟩
 exact aq):G:=h
theorem ve(h:G:=by
 intro i p hi hp
 have e':i≠id:=by rintro rfl;rw[eH (hs.bA i hd)]at hp;cases hp
 rw[dC e']at hp
 obtain⟨b',cs',T',e1,e2,e3,e4⟩:=hs.box i p hi hp
 refine⟨b',cs',T',(fH e').trans e1,?_,e3.mono nx,e4⟩
 exact aq):G:=h
theorem vf(h:G:=by
 rw[dI,hc2,rB]at hs
 by_cases e:a=b
 .rw[yAV e,yBm]at hs
  refine aC (A7 q1 q2 hi hir ha @hb @e) ?_
  exact ai
 .rw[yBc e,yAX]at hs
  refine aC (A7 q1 q2 hi hir ha @hb @e) ?_
  exact ay):G:=h
theorem vh(h:G:=by
 intro i hi hm
 have e':i≠id:=by rintro rfl;rw[eH (hs.bA i hd)]at hm;cases hm
 rw[dC e']at hm
 obtain⟨b',e1,e2⟩:=hs.mark i hi hm
 refine⟨b',(fH e').trans e1,?_⟩
 exact aq):G:=h
theorem vj(h:G:=by
 split at h
 .rename_i hw
  split at h
  .rename_i p σ1 hp
   split at h
   .exact gj
   .exact af
  .exact af
 .rename_i hw
  split at h
  .exact gz
  .exact af):G:=h
theorem vl(h:G:=by
 refine aC (A2 @hb @hz) ?_
 exact aj):G:=h
theorem vm(h:G:=by
 refine aC (A2 @hb @f1) ?_
 exact aj):G:=h
theorem vn(h:G:=by
 have:=yAL List.head? hd
 rw[yCD]at this
 exact bq):G:=h
theorem vo(h:G:=by
 obtain⟨xr,xv⟩:=yA.1 fZ
 have hz:=h0
 refine aL.aN 30 h0 func51 (h:=?_)
 refine aC (A10 @s1 e1 e2 s3 e3 w1 hρ fZ xr xv) ?_
 exact ec):G:=h
theorem vp(h:G:=by
 refine aC @hb ?_
 exact aj):G:=h
theorem vr(h:G:=by
 refine aC (A10 @s1 e1 s3 e3 w1 hρ fZ xr xv hx) ?_
 exact ec):G:=h
theorem vu(h:G:=by
 split at h
 .rename_i q hq;exact(yA.1 hq).1
 .exact af):G:=h
theorem vw(h:G:=by
 have:=yAL List.head? hdrop
 rw[yCD]at this
 exact bq):G:=h
theorem vz(h:G:=by
 split at h
 .exact af
 .cases h):G:=h
theorem wg(h:G:=by
 have qU:A=[]:=yAf hlen
 subst qU
 have V2:T=0:=by rw[<-hs];rfl
 subst V2
 refine aC @hlen ?_
 exact aj):G:=h
theorem wh(h:G:=by
 refine aC (A6 j0 @hid hlt @he @c @f0) ?_
 exact aj):G:=h
theorem wj(h:G:=by
 apply SQ.nil
 refine aC trivial ?_
 exact ag):G:=h
theorem wm(h:G:=by
 refine aC (A2 h1 hE) ?_
 exact aa):G:=h
theorem wo(h:G:=by
 have hF:=fin (l'.set i ⟨cn,a+b,d+b,sh,th⟩) true hms (by rw[<-mO];simp[lU])
 exact bz):G:=h
theorem wq(h:G:=by
 refine aC (A5 j0 @hid hlt @he @c) ?_
 exact aj):G:=h
theorem wu(h:G:=by
 rw[yAV e,yBm]at hs
 rw[yAV e]at hE
 refine aC (A8 q1 q2 hi hir ha @hb h1 hE) ?_
 exact ai):G:=h
theorem wz(h:G:=by
 obtain⟨xr,xv⟩:=yA.1 fZ
 have hz:=h0
 refine aL.aN 30 h0 func47 (h:=?_)
 exact cm):G:=h
theorem wI(h:G:=by
 obtain⟨xr,xv⟩:=yA.1 fZ
 have hz:=h0
 refine aL.aN 30 h0 func49 (h:=?_)
 exact cm):G:=h
theorem wJ(h:G:=by
 obtain⟨xr,xv⟩:=yA.1 fZ
 have hz:=h0
 refine aL.aN 30 h0 func50 (h:=?_)
 exact cm):G:=h
theorem xe(h:G:=by
 simp only[cJ]at h
 split at h
 .split at h
  .exact ku
  .exact af
 .exact af):G:=h
theorem xg(h:G:=by
 refine aI.aN 38 h0 func61 (h:=?_)
 refine aC (A7 h1 h2 h3 e1 e2 e3 e4) ?_
 exact aa):G:=h
theorem xh(h:G:=by
 refine⟨b',C,cur,(fH e').trans e1,?_,e3,e4,e5,e6,e7.mono nx,e8⟩
 exact aq):G:=h
theorem xj(h:G:=by
 refine aI.aN 23 h0 func45 (h:=?_)
 refine aC (A3 c1 c2 c3) ?_
 exact aa):G:=h
theorem xm(h:G:=by
 refine aC (A13 b1 b2 b3 b4 c2 c3 @d9 @d11 hml hp h2 xD zL) ?_
 exact bt):G:=h
theorem xo(h:G:=by
 have:=VR.agg (c:=c) cells'.toList out h2.1 h3 h2.2
 exact bq):G:=h
theorem xp(h:G:=by exact A2 @hq cK):G:=h
theorem xq(h:G:=by exact A20 q1 hi4 oJ vt rT yT vg rG yG a1 @a2 b1 b2 wa @wd @f1 @f2 @f3 @g1 (A4 @g2 @g3 fN nL)):G:=h
theorem xu(h:G:=by exact A9 q1 hi xk @v2 r2 y2 nG hat j0):G:=h
theorem xw(h:G:=by exact A20 q1 hi4 oJ vt rT yT vg rG yG a1 @a2 b1 b2 wa @wd @f1 @f2 @f3 @g1 (A6 @g2 @g3 fN nL e1 e2)):G:=h
theorem xx(h:G:=by exact A15 q1 hi4 oJ vt rT yT vg rG yG KS hat KT hwr hfl hge):G:=h
theorem xy(h:G:=by exact A15 q1 hi ha j0 j1 hx1 fI hxe c2 c3 c4 c5 h1 hE @hle):G:=h
theorem xz(h:G:=by exact A14 q1 hi ha j0 hx1 hy1 fI j7 hxe hye h2 hE h3 hA):G:=h
theorem xL(h:G:=by exact A16 u0 w0 @z0 r0 s6 j0 hK xk hi p9 c9 u7 r7 y7 nG hfl):G:=h
theorem ya(h:G:=by exact A16 q1 hi4 oJ vt rT yT vg rG yG KS hat KT hwr hfl hge @he):G:=h
theorem yb(h:G:=by exact A20 q1 hi4 oJ vt rT yT vg rG yG a1 @a2 b1 b2 wa @wd @f1 @f2 @f3 @g1 (A5 @g2 @g3 fN nL e1)):G:=h
theorem yc(h:G:=by exact A20 h1 k1 h2 k2 h3 k3 n1 n2 hOB jO jS dB c0 c1 c2 c3 w0 w1 w2 (A20 w3 @z0 z1 @z2 @z3 pR pD pC cR cD cC h4 k4 h7 k7 h5 k5 u0 u1 (A20 u2 u3 @v0 @v1 @v2 @v3 y0 y1 y2 y3 s0 @s1 @s2 s3 @f0 @f1 @f2 @f3 @d0 (A20 @d1 @d2 @d3 pQ cQ iH h6 k6 @a5 r5 x5 @t2 r2 x2 pR pD pC cR cD (A3 cC pQ cQ))))):G:=h
theorem yd(h:G:=by exact A20 h1 k1 h2 k2 h3 k3 n1 n2 hOB jO jS dB c0 c1 c2 c3 w0 w1 w2 (A20 w3 @z0 z1 @z2 @z3 pR pD pC cR cD cC h4 k4 h7 k7 h5 k5 u0 u1 (A20 u2 u3 @v0 @v1 @v2 @v3 y0 y1 y2 y3 s0 @s1 @s2 s3 @f0 @f1 @f2 @f3 @d0 (A20 @d1 @d2 @d3 pQ cQ iH h6 k6 @hz @a5 r5 x5 @t2 r2 x2 pR pD pC cR (A4 cD cC pQ cQ))))):G:=h
theorem ye(h:G:=by omega):G:=h
theorem yf(h:G:=by kernel_rfl):G:=h
theorem yg(h:G:=by simp):G:=h
theorem yh(h:G:=by (first|rfl|(simp[hq];repeat(first|rfl|(apply And.intro)))|(simp[hq];done))):G:=h
theorem yj(h:G:=by decide):G:=h
theorem ym(h:G:=by rw[yAP];omega):G:=h
theorem yo(h:G:=by cases x;cases y;simpa using h):G:=h
theorem yp(h:G:=by assumption):G:=h
theorem yq(h:G:=by simp only[IntKind.wrap,IntKind.bits,IntKind.signed];simp;omega):G:=h
theorem yu(h:G:=by decide +kernel):G:=h
theorem yw(h:G:=by cases h):G:=h
theorem yx(h:G:=by (first|rfl|(simp[];repeat(first|rfl|(apply And.intro)))|(simp[];done))):G:=h
theorem yy(h:G:=by rw[yAq hi,ha]):G:=h
theorem yz(h:G:=by intro e k n h;cases h):G:=h
theorem ze(h:G:=by (try simp only[yAa,yAS,yAT,maxLen]);omega):G:=h
theorem zf(h:G:=by simp;omega):G:=h
theorem zg(h:G:=by unfold Addr.add;split<;>simp_all):G:=h
theorem zi(h:G:=by simp only[maxLen];omega):G:=h
theorem zj(h:G:=by rw[<-hhD];exact o6 _ _ _ _):G:=h
theorem zk(h:G:=by rintro rfl;rw[eH (hs.bA i hd)]at ho;cases ho):G:=h
theorem zo(h:G:=by rw[yAe];omega):G:=h
theorem zq(h:G:=by rw[<-hhD];exact qZ _ _ _ _):G:=h
theorem zu(h:G:=by cases e):G:=h
theorem zx(h:G:=by simpa using h):G:=h
theorem zy(h:G:=by rw[<-cY,yAd (yBb h)]):G:=h
theorem zz(h:G:=by simp only;omega):G:=h
theorem Aa(h:G:=by rw[<-hhR];exact o5 _ _ _):G:=h
theorem Ab(h:G:=by rw[<-hhC];exact o5 _ _ _):G:=h
theorem Ac(h:G:=by rw[yAq hir,hb]):G:=h
theorem Ad(h:G:=by intro e k n h;rw[hL]at h;cases h):G:=h
theorem Ae(h:G:=by rw[<-dB];exact hO.bF λid y _ hy=>cL hy):G:=h
theorem Af(h:G:=by intro fl σ n;kernel_rfl):G:=h
theorem Ag(h:G:=by rw[<-hhC];exact rX _ _ _):G:=h
theorem Ah(h:G:=by rw[h];rfl):G:=h
theorem Ai(h:G:=by rw[yAt];omega):G:=h
theorem Aj(h:G:=by rw[<-hOB];simp):G:=h
theorem Ak(h:G:=by rw[yAe];exact h):G:=h
theorem Al(h:G:=by rw[<-hhR];exact rX _ _ _):G:=h
theorem Am(h:G:=by simp at h):G:=h
theorem Ao(h:G:=by simpa using h1):G:=h
theorem Ap(h:G:=by rw[hr];rfl):G:=h
theorem Aq(h:G:=by have:=(hrow hp).1;omega):G:=h
theorem Ar(h:G:=by rw[<-hB];simp):G:=h
theorem As(h:G:=by (first|rfl|(simp[n4,eI,aV,jN,cP,iX,kB,sz];repeat(first|rfl|(apply And.intro)))|(simp[n4,eI,aV,jN,cP,iX,kB,sz];done))):G:=h
theorem At(h:G:=by apply yCg;simp):G:=h
theorem Au(h:G:=by simp[Call.operands];exact yCc.1 hx):G:=h
theorem Av(h:G:=by simp[<-hy]):G:=h
theorem Aw(h:G:=by simp[hy]):G:=h
theorem Ax(h:G:=by simpa using g2):G:=h
theorem Ay(h:G:=by rw[yAe];have:=KY hzs hW;omega):G:=h
theorem Az(h:G:=by cases h;rfl):G:=h
theorem Ba(h:G:=by rw[e]at p7;simp at p7):G:=h
theorem Bb(h:G:=by simpa using hl):G:=h
theorem Bc(h:G:=by simpa using hx):G:=h
theorem Bd(h:G:=by simpa using ho):G:=h
theorem Be(h:G:=by obtain⟨r,_,rfl⟩:=yAw.1 h;rfl):G:=h
theorem Bf(h:G:=by rw[yAg fI];exact hx0):G:=h
theorem Bg(h:G:=by rw[<-he];exact zU fl):G:=h
theorem Bh(h:G:=by simpa using a):G:=h
theorem Bi(h:G:=by simpa using b):G:=h
theorem Bj(h:G:=by unfold aE.add;rw[yAJ rfl]):G:=h
theorem Bk(h:G:=by simpa using g4):G:=h
theorem Bl(h:G:=by cases mx<;>simp_all):G:=h
theorem Bm(h:G:=by rw[yAe,yAt];omega):G:=h
theorem Bn(h:G:=by rw[<-hOB];exact hl1):G:=h
theorem Bo(h:G:=by rw[<-dB];exact jO _):G:=h
theorem Bp(h:G:=by show PD.agg (PD.mF _)=_;rw[PD.qI];simp only[yAR,yBo];rw[xO Em.stop 4 fs .any];rfl):G:=h
theorem Bq(h:G:=by (first|rfl|(simp[DK,iQ];repeat(first|rfl|(apply And.intro)))|(simp[DK,iQ];done))):G:=h
theorem Br(h:G:=by (first|rfl|(simp[fS,iQ];repeat(first|rfl|(apply And.intro)))|(simp[fS,iQ];done))):G:=h
theorem Bs(h:G:=by (first|rfl|(simp[nK,iQ];repeat(first|rfl|(apply And.intro)))|(simp[nK,iQ];done))):G:=h
theorem Bt(h:G:=by rw[<-cY,yAD];omega):G:=h
theorem Bu(h:G:=by rw[<-mO];simp[lU,e1,e2]):G:=h
theorem Bv(h:G:=by rw[<-dB,yAa];omega):G:=h
theorem Bw(h:G:=by show PD.agg (PD.mF _)=_;rw[PD.qI];simp only[yAR,yBo];rw[xO Em.eU 3 sg .any];rfl):G:=h
theorem Bx(h:G:=by rw[yAe];exact hr.more _):G:=h
theorem Bz(h:G:=by show PD.agg (PD.mF _)=_;rw[PD.qI];simp only[yAR,yBo];rw[xO i64 1 wd .any];rfl):G:=h
theorem Ca(h:G:=by simp[Act.eval,Act.put]):G:=h
theorem Cb(h:G:=by rw[hL];intro h;cases h):G:=h
theorem Cc(h:G:=by rw[e]):G:=h
theorem Cd(h:G:=by (first|rfl|(simp[gU];repeat(first|rfl|(apply And.intro)))|(simp[gU];done))):G:=h
theorem Ce(h:G:=by (first|rfl|(simp[PS];repeat(first|rfl|(apply And.intro)))|(simp[PS];done))):G:=h
theorem Cf(h:G:=by have:=(a2 hp).1;omega):G:=h
theorem Cg(h:G:=by simp only[fB,hu]):G:=h
theorem Ch(h:G:=by cases a;unfold Addr.add;split<;>rfl):G:=h
theorem Ci(h:G:=by rw[<-oS];trivial):G:=h
theorem Cj(h:G:=by simpa using hn):G:=h
theorem Ck(h:G:=by simp[Cx.put]):G:=h
theorem Cl(h:G:=by rw[e1];rfl):G:=h
theorem Cm(h:G:=by have:=(nW hp).1;omega):G:=h
theorem Cn(h:G:=by unfold tn at h;exact_mod_cast h):G:=h
theorem Co(h:G:=by unfold kU;omega):G:=h
theorem Cp(h:G:=by intro e k n h;rw[hLB]at h;cases h):G:=h
theorem Cq(h:G:=by rw[<-hzs];simp only[yAi,yAQ,yAO]):G:=h
theorem Cr(h:G:=by simp[ByteArray.size]):G:=h
theorem Cs(h:G:=by simp only[maxLen]at hmax;omega):G:=h
theorem Ct(h:G:=by simp[zeroValue,typeInfo,hi,hzv]):G:=h
theorem Cu(h:G:=by rw[<-hA,h];rfl):G:=h
theorem Cv(h:G:=by refine⟨l.length,?_⟩;exact bG (⟨rfl,yAk _,by rw[yBO];exact hT⟩)):G:=h
theorem Cw(h:G:=by have:=hzc.1;simp at this;omega):G:=h
theorem Cy(h:G:=by simp[aY]at hb;omega):G:=h
theorem Cz(h:G:=by simp only[dL,eA hx,eA hy,hr]):G:=h
theorem Da(h:G:=by rw[hlen];exact hw):G:=h
theorem Db(h:G:=by simp only[yAQ,yAO,yAZ,yBX];rfl):G:=h
theorem Dc(h:G:=by rw[yBG hi,ha]):G:=h
theorem Dd(h:G:=by rw[hls,yAH,hA];exact yAj vL):G:=h
theorem De(h:G:=by rw[sL (hs.bA id hd)];exact h):G:=h
theorem Df(h:G:=by cases hx:fn.body<;>simp_all):G:=h
theorem Dg(h:G:=by simp only[tQ,yAY,yAZ];rfl):G:=h
theorem Dh(h:G:=by rw[<-hρ,yAg hlt];exact hid):G:=h
theorem Di(h:G:=by rw[IntKind.wrap_u64];omega):G:=h
theorem Dj(h:G:=by rw[<-iH];exact cF.set s3 _):G:=h
theorem Dk(h:G:=by simpa using hd):G:=h
theorem Dl(h:G:=by rw[e];exact hd):G:=h
theorem Dm(h:G:=by simpa using hu):G:=h
theorem Dn(h:G:=by simpa using hi):G:=h
theorem Dp(h:G:=by rw[<-yBI,hd];rfl):G:=h
theorem Dq(h:G:=by have:=hb.1;omega):G:=h
theorem Dr(h:G:=by simpa using h3):G:=h
theorem Ds(h:G:=by rw[<-jU];exact D1 _ _ _ _):G:=h
theorem Dt(h:G:=by rw[<-jU];exact D2 _ _ _ _):G:=h
theorem Du(h:G:=by rw[<-iF];exact o6 _ _ _ _):G:=h
theorem Dv(h:G:=by rw[<-iF];exact qZ _ _ _ _):G:=h
theorem Dw(h:G:=by simp[hlt]):G:=h
theorem Dx(h:G:=by simp[execOp,r]):G:=h
theorem Dy(h:G:=by simpa using hk):G:=h
theorem Dz(h:G:=by simp only[dL,eA hx,hr]):G:=h
theorem Ea(h:G:=by rw[htk,yAH,<-yAi,hρ];rfl):G:=h
theorem Eb(h:G:=by simp[PD.strip]):G:=h
theorem Ec(h:G:=by rw[hi.size];exact oT ho):G:=h
theorem Ed(h:G:=by unfold kJ;simp only[hu];cases x<;>cases y<;>rfl):G:=h
theorem Ee(h:G:=by rw[<-iF];exact F5 _ _ _):G:=h
theorem Ef(h:G:=by rw[<-iF];exact F6 _ _ _):G:=h
theorem Eg(h:G:=by rw[<-mO];rfl):G:=h
theorem Eh(h:G:=by have:=yAU.1 hi;omega):G:=h
theorem Ei(h:G:=by rw[<-cY];exact yAj r1):G:=h
theorem Ej(h:G:=by rw[<-cY];exact yAj v1):G:=h
theorem Ek(h:G:=by rw[<-iH];exact yAj f3):G:=h
theorem El(h:G:=by rintro rfl;rw[eH (hs.bA i hd)]at hm;cases hm):G:=h
theorem En(h:G:=by rw[hAl];exact urow):G:=h
theorem Ep(h:G:=by have:=h.len;rw[e]at this;simp at this;omega):G:=h
end
theorem tv:True:=trivial
theorem An {a b:Prop}(h:a)(k:b):a∧b:=⟨h,k⟩
theorem gn {α:Sort _}(e:α):∃x,e=x:=⟨_,rfl⟩
def yA:=@List.getElem?_eq_some_iff
def yAa:=@List.length_append
def yAb:=@Option.some.injEq
def yAc:=@Prod.mk.injEq
def yAd:=@List.getElem?_set_ne
def yAe:=@List.length_map
def yAf:=@List.eq_nil_of_length_eq_zero
def yAg:=@List.getElem?_append_left
def yAh:=@List.getElem?_eq_getElem
def yAi:=@List.append_assoc
def yAj:=@List.getElem?_set_self
def yAk:=@Nat.le_refl
def yAl:=@List.append_nil
def yAm:=@List.getElem_mem
def yAn:=@List.all_eq_true
def yAo:=@List.getElem?_map
def yAp:=@Nat.zero_add
def yAq:=@List.drop_eq_getElem_cons
def yAr:=@Bool.and_eq_true
def yAs:=@List.drop_eq_nil_of_le
def yAt:=@List.length_take
def yAu:=@decide_eq_decide
def yAv:=@List.getElem?_take
def yAw:=@List.mem_map
def yAx:=@Bool.false_eq_true
def yAy:=@List.mem_of_mem_take
def yAz:=@List.take_of_length_le
def yAA:=@List.getD_eq_getElem?_getD
def yAB:=@List.getElem?_concat_length
def yAC:=@Option.map_some
def yAD:=@List.length_set
def yAE:=@List.mem_of_getElem?
def yAF:=@Nat.zero_le
def yAG:=@List.map_congr_left
def yAH:=@List.map_append
def yAI:=@if_neg
def yAJ:=@if_pos
def yAK:=@if_true
def yAL:=@congrArg
def yAM:=@Go.run_underlying
def yAN:=@if_false
def yAO:=@List.nil_append
def yAP:=@Go.IntKind.wrap_i64
def yAQ:=@List.cons_append
def yAR:=@List.map_cons
def yAS:=@List.length_cons
def yAT:=@List.length_nil
def yAU:=@List.mem_range
def yAV:=@decide_eq_true
def yAW:=@Nat.le_trans
def yAX:=@Bool.false_and
def yAY:=@List.set_cons_zero
def yAZ:=@List.set_cons_succ
def yBa:=@Go.Sem.run_bind
def yBb:=@Ne.symm
def yBc:=@decide_eq_false
def yBd:=@List.length_drop
def yBe:=@Option.some.inj
def yBf:=@List.mem_append
def yBg:=@List.mem_of_mem_drop
def yBh:=@List.mem_cons_self
def yBi:=@Array.length_toList
def yBj:=@Go.Result.andThen_ok
def yBk:=@Go.Sem.run_pure
def yBl:=@List.getElem?_drop
def yBm:=@Bool.true_and
def yBn:=@and_true
def yBo:=@List.map_nil
def yBp:=@Bool.or_eq_true
def yBq:=@Bool.not_eq_true'
def yBr:=@List.flatten_cons
def yBs:=@List.flatMap_cons
def yBt:=@Nat.add_zero
def yBu:=@Nat.add_mul
def yBv:=@Nat.not_lt_zero
def yBw:=@Nat.mod_lt
def yBx:=@and_self
def yBy:=@Int.toNat_natCast
def yBz:=@List.getElem?_append_right
def yBA:=@List.map_map
def yBB:=@Go.Calls.mono
def yBC:=@List.getElem?_cons_zero
def yBD:=@List.mem_cons
def yBE:=@List.getElem_map
def yBF:=@List.getElem?_eq_none
def yBG:=@List.take_succ_eq_append_getElem
def yBH:=@List.length_mapIdx
def yBI:=@List.drop_drop
def yBJ:=@Go.Addr.mk.injEq
def yBK:=@Nat.mul_le_mul_right
def yBL:=@not_true_eq_false
def yBM:=@Go.Value.slice.injEq
def yBN:=@Go.setRow_other
def yBO:=@List.take_length
def yBP:=@Nat.lt_of_lt_of_le
def yBQ:=@Nat.succ_mul
def yBR:=@Bool.not_true
def yBS:=@Nat.min_eq_left
def yBT:=@List.getElem?_cons_succ
def yBU:=@Go.setRow_heap
def yBV:=@List.mem_cons_of_mem
def yBW:=@Go.heap_alloc_new
def yBX:=@Nat.add_assoc
def yBY:=@decide_eq_true_eq
def yBZ:=@or_true
def yC:=@List.cons.injEq
def yCa:=@List.drop_zero
def yCb:=@Int.natCast_nonneg
def yCc:=@Array.mem_toList_iff
def yCd:=@beq_iff_eq
def yCe:=@Nat.lt_or_ge
def yCf:=@Bool.false_or
def yCg:=@Array.ext'
def yCh:=@Nat.le_of_lt
def yCi:=@List.take_take
def yCj:=@List.any_eq_true
def yCk:=@List.drop_of_length_le
def yCl:=@List.all_cons
def yCm:=@List.drop_length
def yCn:=@Bool.not_false
def yCo:=@Bool.and_self
def yCp:=@List.ext_getElem?
def yCq:=@List.size_toArray
def yCr:=@List.take_left
def yCs:=@Nat.le_succ
def yCt:=@List.length_pos_iff
def yCu:=@Bool.not_eq_true
def yCv:=@Array.getElem?_eq_getElem
def yCw:=@Go.run_sliceBound
def yCx:=@Nat.sub_self
def yCy:=@List.mem_singleton
def yCz:=@not_false_eq_true
def yCA:=@List.not_mem_nil
def yCB:=@true_or
def yCC:=@List.nodup_append
def yCD:=@List.head?_drop
def yCE:=@Go.CallsIn.mono
def yCF:=@Prod.ext
def yCG:=@Nat.lt_irrefl
def yCH:=@Array.getElem?_toList
def yCI:=@Go.World.cell?_of_block
def yCJ:=@true_and
def yCK:=@Go.Value.pointer.injEq
def yCL:=@List.map_set
def yCM:=@Go.World.putObj_heap_other
def yCN:=@or_false
def yCO:=@List.getElem_of_mem
def yCP:=@List.mem_or_eq_of_mem_set
def yCQ:=@Nat.add_sub_cancel_left
def yCR:=@List.map_take
def yCS:=@List.take_zero
def yCT:=@Nat.zero_mul
def yCU:=@Option.bind_some
def yCV:=@List.getElem?_set
def yCW:=@Array.getD_eq_getD_getElem?
def yCX:=@Nat.mul_pos
def yCY:=@Nat.pos_of_ne_zero
def yCZ:=@Go.run_storeCells_at
def yDa:=@List.take_append_of_le_length
def yDb:=@List.getElem?_append
def yDc:=@Nat.mul_one
def yDd:=@List.getElem?_of_mem
def yDe:=@List.mem_flatMap
def yDf:=@Classical.not_not
def yDg:=@Nat.mul_le_mul
def yDh:=@List.range_succ
def yDi:=@List.getElem_mapIdx
def yDj:=@Bool.and_true
def yDk:=@Option.getD_some
def yDl:=@Bool.true_or
def yDm:=@List.foldl_cons
def yDn:=@Nat.sub_zero
def yDo:=@List.range'_succ
def yDp:=@Nat.add_comm
def yDq:=@Array.toList_map
def yDr:=@Array.toList_range
def yDs:=@Go.grownCap_ge
def yDt:=@Go.heap_alloc_old
def yDu:=@Go.size_zeroCells
def yDv:=@Array.getElem?_modify
def yDw:=@Int.emod_nonneg
def yDx:=@Int.emod_lt_of_pos
def yDy:=@List.any_eq_false
def yDz:=@Int.tmod_eq_emod_of_nonneg
def yDA:=@List.set_append_right
def yDB:=@Nat.add_sub_cancel
def yDC:=@Array.mem_of_getElem?
def yDD:=@Nat.one_ne_zero
def yDE:=@Array.getElem?_eq_some_iff
def yDF:=@List.take_succ_cons
def yDG:=@List.all_append
def yDH:=@Bool.or_false
def yDI:=@Option.map_none
def yDJ:=@List.mem_filterMap
def yDK:=@List.length_singleton
def yDL:=@Nat.succ_ne_self
def yDM:=@Sum.inl.injEq
def yDN:=@Go.grownCap_le_maxLen
def yDO:=@Array.toList_append
def yDP:=@Array.size_append
def yDQ:=@List.drop_take
def yDR:=@List.any_cons
def yDS:=@Array.size_replicate
def yDT:=@Go.run_callFunc_extern
def yDU:=@List.getElem_set_self
def yDV:=@Bool.or_assoc
def yDW:=@decide_eq_false_iff_not
def yDX:=@Bool.or_eq_false_iff
def yDY:=@BitVec.eq_of_toNat_eq
def yDZ:=@List.set_append_left
def yE:=@Array.toList_setIfInBounds
def yEa:=@Array.getElem?_replicate
def yEb:=@Nat.eq_zero_or_pos
def yEc:=@List.flatMap_append
def yEd:=@Nat.eq_of_mul_eq_mul_right
def yEe:=@List.getElem?_eq_none_iff
def yEf:=@Array.eq_empty_of_size_eq_zero
def yEg:=@List.set_eq_of_length_le
def yEh:=@List.drop_length_add_append
def yEi:=@List.set_getElem_self
def yEj:=@List.drop_append_of_le_length
def yEk:=@Array.getElem?_append
def yEl:=@List.getD_cons_succ
def yEm:=@List.set_eq_take_append_cons_drop
def yEn:=@Int.tdiv_eq_ediv_of_nonneg
theorem A2 {A B:Prop}(a:A)(b:B):A∧B:=⟨a,b⟩
theorem A3 {A B C:Prop}(a:A)(b:B)(c:C):A∧B∧C:=⟨a,b,c⟩
theorem A4 {A B C D:Prop}(a:A)(b:B)(c:C)(d:D):A∧B∧C∧D:=⟨a,b,c,d⟩
theorem A5 {A B C D E:Prop}(a:A)(b:B)(c:C)(d:D)(e:E):A∧B∧C∧D∧E:=⟨a,b,c,d,e⟩
theorem A6 {A B C D E F:Prop}(a:A)(b:B)(c:C)(d:D)(e:E)(f:F):A∧B∧C∧D∧E∧F:=⟨a,b,c,d,e,f⟩
theorem A7 {A B C D E F G:Prop}(a:A)(b:B)(c:C)(d:D)(e:E)(f:F)(g:G):A∧B∧C∧D∧E∧F∧G:=⟨a,b,c,d,e,f,g⟩
theorem A8 {A B C D E F G H:Prop}(a:A)(b:B)(c:C)(d:D)(e:E)(f:F)(g:G)(h:H):A∧B∧C∧D∧E∧F∧G∧H:=⟨a,b,c,d,e,f,g,h⟩
theorem A9 {A B C D E F G H I:Prop}(a:A)(b:B)(c:C)(d:D)(e:E)(f:F)(g:G)(h:H)(i:I):A∧B∧C∧D∧E∧F∧G∧H∧I:=⟨a,b,c,d,e,f,g,h,i⟩
theorem A10 {A B C D E F G H I J:Prop}(a:A)(b:B)(c:C)(d:D)(e:E)(f:F)(g:G)(h:H)(i:I)(j:J):A∧B∧C∧D∧E∧F∧G∧H∧I∧J:=⟨a,b,c,d,e,f,g,h,i,j⟩
theorem A11 {A B C D E F G H I J K:Prop}(a:A)(b:B)(c:C)(d:D)(e:E)(f:F)(g:G)(h:H)(i:I)(j:J)(k:K):A∧B∧C∧D∧E∧F∧G∧H∧I∧J∧K:=⟨a,b,c,d,e,f,g,h,i,j,k⟩
theorem A12 {A B C D E F G H I J K L:Prop}(a:A)(b:B)(c:C)(d:D)(e:E)(f:F)(g:G)(h:H)(i:I)(j:J)(k:K)(l:L):A∧B∧C∧D∧E∧F∧G∧H∧I∧J∧K∧L:=⟨a,b,c,d,e,f,g,h,i,j,k,l⟩
theorem A13 {A B C D E F G H I J K L M:Prop}(a:A)(b:B)(c:C)(d:D)(e:E)(f:F)(g:G)(h:H)(i:I)(j:J)(k:K)(l:L)(m:M):A∧B∧C∧D∧E∧F∧G∧H∧I∧J∧K∧L∧M:=⟨a,b,c,d,e,f,g,h,i,j,k,l,m⟩
theorem A14 {A B C D E F G H I J K L M N:Prop}(a:A)(b:B)(c:C)(d:D)(e:E)(f:F)(g:G)(h:H)(i:I)(j:J)(k:K)(l:L)(m:M)(n:N):A∧B∧C∧D∧E∧F∧G∧H∧I∧J∧K∧L∧M∧N:=⟨a,b,c,d,e,f,g,h,i,j,k,l,m,n⟩
theorem A15 {A B C D E F G H I J K L M N O:Prop}(a:A)(b:B)(c:C)(d:D)(e:E)(f:F)(g:G)(h:H)(i:I)(j:J)(k:K)(l:L)(m:M)(n:N)(o:O):A∧B∧C∧D∧E∧F∧G∧H∧I∧J∧K∧L∧M∧N∧O:=⟨a,b,c,d,e,f,g,h,i,j,k,l,m,n,o⟩
theorem A16 {A B C D E F G H I J K L M N O P:Prop}(a:A)(b:B)(c:C)(d:D)(e:E)(f:F)(g:G)(h:H)(i:I)(j:J)(k:K)(l:L)(m:M)(n:N)(o:O)(p:P):A∧B∧C∧D∧E∧F∧G∧H∧I∧J∧K∧L∧M∧N∧O∧P:=⟨a,b,c,d,e,f,g,h,i,j,k,l,m,n,o,p⟩
theorem A17 {A B C D E F G H I J K L M N O P Q:Prop}(a:A)(b:B)(c:C)(d:D)(e:E)(f:F)(g:G)(h:H)(i:I)(j:J)(k:K)(l:L)(m:M)(n:N)(o:O)(p:P)(q:Q):A∧B∧C∧D∧E∧F∧G∧H∧I∧J∧K∧L∧M∧N∧O∧P∧Q:=⟨a,b,c,d,e,f,g,h,i,j,k,l,m,n,o,p,q⟩
theorem A18 {A B C D E F G H I J K L M N O P Q R:Prop}(a:A)(b:B)(c:C)(d:D)(e:E)(f:F)(g:G)(h:H)(i:I)(j:J)(k:K)(l:L)(m:M)(n:N)(o:O)(p:P)(q:Q)(r:R):A∧B∧C∧D∧E∧F∧G∧H∧I∧J∧K∧L∧M∧N∧O∧P∧Q∧R:=⟨a,b,c,d,e,f,g,h,i,j,k,l,m,n,o,p,q,r⟩
theorem A19 {A B C D E F G H I J K L M N O P Q R S:Prop}(a:A)(b:B)(c:C)(d:D)(e:E)(f:F)(g:G)(h:H)(i:I)(j:J)(k:K)(l:L)(m:M)(n:N)(o:O)(p:P)(q:Q)(r:R)(s:S):A∧B∧C∧D∧E∧F∧G∧H∧I∧J∧K∧L∧M∧N∧O∧P∧Q∧R∧S:=⟨a,b,c,d,e,f,g,h,i,j,k,l,m,n,o,p,q,r,s⟩
theorem A20 {A B C D E F G H I J K L M N O P Q R S T:Prop}(a:A)(b:B)(c:C)(d:D)(e:E)(f:F)(g:G)(h:H)(i:I)(j:J)(k:K)(l:L)(m:M)(n:N)(o:O)(p:P)(q:Q)(r:R)(s:S)(t:T):A∧B∧C∧D∧E∧F∧G∧H∧I∧J∧K∧L∧M∧N∧O∧P∧Q∧R∧S∧T:=⟨a,b,c,d,e,f,g,h,i,j,k,l,m,n,o,p,q,r,s,t⟩
def wF:Nat->Option (IntKind×List Int):=λg=>if g=0 then some (.u64,[1,10,100,1000,10000,100000,1000000,10000000,100000000,1000000000,10000000000,100000000000,1000000000000,10000000000000,100000000000000,1000000000000000,10000000000000000,100000000000000000,1000000000000000000,10000000000000000000])else if g=2 then some (.u8,[0,1,28,2,29,14,24,3,30,22,20,15,25,17,4,8,31,27,13,23,21,19,16,7,26,12,18,6,11,5,10,9])else if g=3 then some (.u8,[0,1,56,2,57,49,28,3,61,58,42,50,38,29,17,4,62,47,59,36,45,43,51,22,53,39,33,30,24,18,12,5,63,55,48,27,60,41,37,16,46,35,44,21,52,32,23,11,54,26,40,15,34,20,31,10,25,14,19,9,13,8,7,6])else none
def EA:Nat->Option IntKind:=λg=>if g=1 then some .i64 else none
@[simp] def LW:Nat->Bool:=λt=>decide (t=180)
@[simp] def CN:Nat->Nat->Bool:=λs d=>decide (s=9)&&decide (d=97)||decide (s=97)&&decide (d=9)
@[simp] def Q6:Nat->Bool:=λt=>decide (t=97)||decide (t=240)
@[simp] def aHU:Nat->Bool:=λt=>decide (t=31)||decide (t=32)||decide (t=33)||decide (t=51)||decide (t=54)||decide (t=90)
@[simp] def aHV:Nat->Nat->Bool:=λt n=>decide (n=153)||decide (n=158)||(decide (t=33)&&decide (n=275))
@[simp] def gH(t n:Nat):Bool:=aHU t&&!aHV t n
section
open Go.RowKit
inductive Tok where
 |any
 |full
 |nil
 |iK
 |jF
 |own (id:Nat)
inductive PD where
 |bool (b:Bool)
 |int (k:IntKind) (n:Int)
 |str (s:List UInt8)
 |agg (cs:List PD)
 |slice (size:Nat) (xs:List PD) (tok:Tok)
 |ptr (id off:Nat)
 |eB (cs:List PD) (off:Nat)
 |fV
 |func (f:Nat) (cap:List PD)
 |jH (f:Nat) (first:List PD)
 |yield (id:Nat)
 |iB
 |fF (v:Value)
 |typed (t:TypeId) (cs:List PD)
 |cV (id off n size:Nat)
 |aU (id ver off n size:Nat)
 |dH (id ver off:Nat)
 |eO (id:Nat)
 |iface (t:TypeId) (p:PD)
 |aP (vs:List PD)
instance:Inhabited PD:=⟨.aP []⟩
def PD.cells:PD->List PD
 |.agg cs=>cs
 |.typed _ cs=>cs
 |p=>[p]
inductive EZ where
 |ready
 |busy
 |done (jump:Code)
inductive aB where
 |none
 |box (p:PD)
 |own (e:TypeId) (size n:Nat)
 |row (e:TypeId) (size ver:Nat) (cs:List PD)
 |map (es:List (PD×PD))
 |mark
 |loop (st:EZ) (fr:List PD) (ps:List Tmp) (assign body:Code)
abbrev Er:=Nat->List PD->List aB->Option (PD×List aB)
abbrev Es:=Nat->Nat->List (List PD)
abbrev Et:=Nat->List (List PD)
abbrev Eu:=List (List PD)
abbrev Ex:=List aB
abbrev Ey:=List PD
abbrev Ez:=List UInt8
abbrev Fa:=List Value
abbrev Fb:=Array Value
abbrev Fc:=Array Oper
def EZ.fits(r:Loop):EZ->Prop
 |.ready=>r.state=.ready/\r.pending=none
 |.busy=>r.state=.busy
 |.done j=>r.state=.done/\r.pending=some j
def kL:Option aB->Prop
 |some (.own _ _ _)=>False
 |some (.row _ _ _ _)=>False
 |_=>True
def aY:Value->Option Nat
 |.pointer (some a)=>some a.block
 |.slice (some a) _ _=>some a.block
 |.map r=>r
 |_=>none
def aB.aHS(v:Value)(a:Addr):aB->Prop
 |.none=>True
 |.box _=>∀b,aY v=some b->a.block≠b
 |.own _ size n=>∀b,aY v=some b->a.block=b->a.off<n*size
 |.row _ _ _ _=>∀b,aY v=some b->a.block≠b
 |.map _=>True
 |.mark=>True
 |.loop _ _ _ _ _=>True
structure Cx where
 w:World
 ρ:Nat->Value
 σ:Ex
 D:Nat->Prop
 X:Addr->Prop
def Cx.av(c:Cx)(a:Addr):Prop:=c.X a/\∀id o,c.D id->c.σ[id]?=some o->o.aHS (c.ρ id) a
def qP(c:Cx)(size n cap:Nat)(v:Value):Tok->Prop
 |.any=>True
 |.full=>n=cap
 |.nil=>v=.slice none 0 0/\n=0/\cap=0
 |.iK=>∃k m,v=.slice none k m
 |.jF=>∃a k m,v=.slice (some a) k m
 |.own id=>c.D id/\∃e m,c.σ[id]?=some (.own e size m)/\n<=m/\(n=m->c.ρ id=v)
def AX(c:Cx)(id ver:Nat)(Q:Nat->Value->Prop):Prop:=c.D id/\∀e sz eX cs,c.σ[id]?=some (.row e sz eX cs)->ver<=eX/\(ver=eX->Q sz (c.ρ id))
def RX:Value->Bool
 |.nilIface=>true
 |.map none=>true
 |.chan none=>true
 |.float _ _=>true
 |_=>false
inductive VR (c:Cx):Value->PD->Prop where
 |bool (b:Bool):VR c (.bool b) (.bool b)
 |int (k:IntKind) (n:Int):VR c (.int k n) (.int k n)
 |str (s:List UInt8):VR c (.string ⟨s.toArray⟩) (.str s)
 |agg (cs:List Value) (ds:List PD):cs.length=ds.length->(∀v∈cs,v.oneCell'=true) ->
   (∀(i:Nat) (v:Value) (d:PD),cs[i]?=some v->ds[i]?=some d->VR c v d)->VR c (.agg cs.toArray) (.agg ds)
 |slice (A:Option Addr) (n cap size:Nat) (xs:List PD) (tok:Tok) (fl:List Value) :
   n=xs.length->n<=cap->cap<=maxLen->(∀x∈xs,x.cells.length=size)->fl.length=n*size->(∀v∈fl,v.oneCell'=true) ->
   (∀(j:Nat) (v:Value),fl[j]?=some v->∃ad,A=some ad/\c.w.cell? (ad.add j)=some v/\c.av (ad.add j)) ->
   (∀(j:Nat) (v:Value) (d:PD),fl[j]?=some v->(xs.flatMap PD.cells)[j]?=some d->VR c v d) ->
   qP c size n cap (.slice A n cap) tok->VR c (.slice A n cap) (.slice size xs tok)
 |ptr (id off b:Nat):c.D id->(∃p,c.σ[id]?=some (.box p))->c.ρ id=.pointer (some ⟨b,0,none⟩)->VR c (.pointer (some ⟨b,off,none⟩)) (.ptr id off)
 |cV (id off n cap size b:Nat):c.D id->(∃p,c.σ[id]?=some (.box p))->c.ρ id=.pointer (some ⟨b,0,none⟩)->n<=cap->cap<=maxLen->VR c (.slice (some ⟨b,off,none⟩) n cap) (.cV id off n size)
 |aU (id ver off n cap size b:Nat):AX c id ver (λsz r=>sz=size/\∃C,r=.slice (some ⟨b,0,none⟩) 0 C/\off+cap*size=C*size)->n<=cap->cap<=maxLen ->
   VR c (.slice (some ⟨b,off,none⟩) n cap) (.aU id ver off n size)
 |dH (id ver off b:Nat):AX c id ver (λ_ r=>∃C,r=.slice (some ⟨b,0,none⟩) 0 C)->VR c (.pointer (some ⟨b,off,none⟩)) (.dH id ver off)
 |eO (id b:Nat):c.D id->kL c.σ[id]?->c.ρ id=.map (some b)->VR c (.map (some b)) (.eO id)
 |iface (t:TypeId) (v:Value) (p:PD):VR c v p->VR c (.iface t v) (.iface t p)
 |eB (ad:Addr) (fl:List Value) (ds:List PD) (off:Nat):fl.length=ds.length->(∀v∈fl,v.oneCell'=true) ->
   (∀(j:Nat) (v:Value),fl[j]?=some v->c.w.cell? (ad.add j)=some v/\c.av (ad.add j)) ->
   (∀(j:Nat) (v:Value) (d:PD),fl[j]?=some v->ds[j]?=some d->VR c v d)->VR c (.pointer (some (ad.add off))) (.eB ds off)
 |fV:VR c (.pointer none) .fV
 |func (f:Nat) (cs:List Value) (ds:List PD):cs.length=ds.length ->
   (∀(i:Nat) (v:Value) (d:PD),cs[i]?=some v->ds[i]?=some d->VR c v d)->VR c (.func (.func f) #[] cs.toArray) (.func f ds)
 |jH (f:Nat) (cs:List Value) (ds:List PD):cs.length=ds.length ->
   (∀(i:Nat) (v:Value) (d:PD),cs[i]?=some v->ds[i]?=some d->VR c v d)->VR c (.func (.func f) cs.toArray #[]) (.jH f ds)
 |iB:VR c .nilFunc .iB
 |fF (v:Value):RX v=true->VR c v (.fF v)
 |yield (id l:Nat):c.D id->kL c.σ[id]?->c.ρ id=.pointer (some ⟨l,0,none⟩)->VR c (.func (.yield l) #[] #[]) (.yield id)
 |aP (cs:List Value) (ds:List PD):cs.length=ds.length ->
   (∀(i:Nat) (v:Value) (d:PD),cs[i]?=some v->ds[i]?=some d->VR c v d)->VR c (.tuple cs.toArray) (.aP ds)
def aS(c:Cx)(cs:List Value)(ds:List PD):Prop:=cs.length=ds.length/\∀(i:Nat) (v:Value) (d:PD),cs[i]?=some v->ds[i]?=some d->VR c v d
def xY(g:Nat):Option (List PD):=match wF g with
 |some (k,xs)=>some (xs.map (PD.int k))
 |none=>none
def MV(c:Cx):Prop:=∀g ds,xY g=some ds->VR c (.pointer (some ⟨g,0,none⟩)) (.eB ds 0)
def YK(g:Nat)(cs:Array Value):Prop:=(∀k zs,wF g=some (k,zs)->cs=(zs.map (Value.int k)).toArray)/\∀k,EA g=some k->∃m,cs=#[.int k m]
def YL(g:Nat):Bool:=(wF g).isSome||(EA g).isSome
def Gh(c:Cx):Prop:=∀g,YL g=true->(∃cs T fz,c.w.heap[g]?=some (.cells cs T fz)/\YK g cs)/\∀id,c.D id->aY (c.ρ id)≠some g
def Gl(c:Cx):Prop:=MV c/\Gh c
structure Sr (c:Cx):Prop where
 box:∀id p,c.D id->c.σ[id]?=some (.box p)->∃b cs T,c.ρ id=.pointer (some ⟨b,0,none⟩)/\c.w.heap[b]?=some (.cells cs T (0,0)) /\
  aS c cs.toList p.cells/\(∀v∈cs.toList,v.oneCell'=true)/\∀t ds,p=.typed t ds->T=t
 own:∀id e size n,c.D id->c.σ[id]?=some (.own e size n)->∃xs,c.w.ownsRowF 0 e size (c.ρ id) n xs
 row:∀id e size ver ds,c.D id->c.σ[id]?=some (.row e size ver ds)->∃b C cur,c.ρ id=.slice (some ⟨b,0,none⟩) 0 C/\c.w.heap[b]?=some (.cells cur e (0,0))/\cur.size=C*size/\C<=maxLen/\0<size /\
  ds.length<=cur.size/\aS c (cur.toList.take ds.length) ds/\∀v∈cur.toList,v.oneCell'=true
 map:∀id es,c.D id->c.σ[id]?=some (.map es)->∃b ents clock,c.ρ id=.map (some b)/\c.w.heap[b]?=some (.map ents clock)/\aS c (ents.toList.map MapEntry.key) (es.map Prod.fst)/\aS c (ents.toList.map MapEntry.val) (es.map Prod.snd)
 mark:∀id,c.D id->c.σ[id]?=some .mark->∃b,c.ρ id=.pointer (some ⟨b,0,none⟩)/\c.w.heap[b]?=some (.deferred (some []))
 loop:∀id st fr ps assign body,c.D id->c.σ[id]?=some (.loop st fr ps assign body)->∃b r,c.ρ id=.pointer (some ⟨b,0,none⟩)/\c.w.heap[b]?=some (.loop r) /\
  r.params=ps.toArray/\r.assign=assign/\r.body=body/\aS c r.tmps.toList fr/\st.fits r
 inj:∀id id' b,c.D id->c.D id'->id≠id'->aY (c.ρ id)=some b->aY (c.ρ id')≠some b
 lt:∀id b,c.D id->aY (c.ρ id)=some b->b<c.w.heap.size
 bA:∀id,c.D id->id<c.σ.length
 fresh:∀a:Addr,c.w.heap.size<=a.block->c.X a
 jA:Gl c
structure Nx (fl:Nat) (c c':Cx):Prop where
 X:c'.X=c.X
 os:c'.w.os=c.w.os
 tape:c'.w.tape=c.w.tape
 output:c'.w.output=c.w.output
 size:c.w.heap.size<=c'.w.heap.size
 len:c.σ.length<=c'.σ.length
 cell:∀a v,c.av a->c.w.cell? a=some v->c'.av a/\c'.w.cell? a=some v
 bA:∀id,c.D id->c'.D id
 new:∀id,c'.D id->c.D id\/c.σ.length<=id
 rK:∀id p,c.D id->c.σ[id]?=some (.box p)->c'.ρ id=c.ρ id/\∃p',c'.σ[id]?=some (.box p')
 mG:∀id,c.D id->kL c.σ[id]?->c'.ρ id=c.ρ id/\kL c'.σ[id]?
 sJ:∀id e s n,c.D id->c.σ[id]?=some (.own e s n)->∃n',c'.σ[id]?=some (.own e s n')/\n<=n'/\(n'=n->c'.ρ id=c.ρ id)
 sK:∀id e s v cs,c.D id->c'.σ[id]?=some (.row e s v cs)->∃v0 cs0,c.σ[id]?=some (.row e s v0 cs0)/\v0<=v/\(v0=v->c'.ρ id=c.ρ id)
 back:∀id b,c'.D id->aY (c'.ρ id)=some b->b<c.w.heap.size->c.D id/\aY (c.ρ id)=some b
 frame:∀k,k<c.w.heap.size->(∀id,c.D id->fl<=id->aY (c.ρ id)≠some k)->c'.w.heap[k]?=c.w.heap[k]?
 ro:∀id,id<fl->id<c.σ.length->c'.σ[id]?=c.σ[id]?
 hole:∀id,id<c.σ.length->¬c.D id->c'.σ[id]?=c.σ[id]?
theorem Nx.refl(fl:Nat)(c:Cx):Nx fl c c:=
 ⟨rfl,rfl,rfl,rfl,yAk _,yAk _,λ_ _ h h'=>⟨h,h'⟩,λ_ h=>h,λ_ h=>.inl h,λ_ p _ h=>⟨rfl,p,h⟩,λ_ _ h=>⟨rfl,h⟩,
  λ_ _ _ n _ h=>⟨n,h,yAk _,λ_=>rfl⟩,λ_ _ _ v cs _ h=>⟨v,cs,h,yAk _,λ_=>rfl⟩,λ_ _ h h' _=>⟨h,h'⟩,λ_ _ _=>rfl,λ_ _ _=>rfl,λ_ _ _=>rfl⟩
theorem Nx.trans{fl:Nat}{a b c:Cx}(h:Nx fl a b)(k:Nx fl b c):Nx fl a c where
 X:=k.X.trans h.X
 os:=k.os.trans h.os
 tape:=k.tape.trans h.tape
 output:=k.output.trans h.output
 size:=yAW h.size k.size
 len:=yAW h.len k.len
 cell:=λx v h1 h2=>let ⟨q1,q2⟩:=h.cell x v h1 h2;k.cell x v q1 q2
 bA:=λid hd=>k.bA id (h.bA id hd)
 new:=λid hd=>(k.new id hd).elim (λq=>h.new id q) (λq=>.inr (yAW h.len q))
 rK:=λid p hd hs=>by
  obtain⟨e1,p',hs'⟩:=h.rK id p hd hs;obtain⟨e2,p'',RY⟩:=k.rK id p' (h.bA id hd) hs';exact⟨e2.trans e1,p'',RY⟩
 mG:=λid hd hn=>by
  obtain⟨e1,hn'⟩:=h.mG id hd hn;obtain⟨e2,aHT⟩:=k.mG id (h.bA id hd) hn';exact⟨e2.trans e1,aHT⟩
 sJ:=λid e s n hd hs=>by
  obtain⟨n',hs',hle,he⟩:=h.sJ id e s n hd hs;obtain⟨n'',RY,hle',he'⟩:=k.sJ id e s n' (h.bA id hd) hs';exact⟨n'',RY,yAW hle hle',λheq=>(he' ye).trans (he ye)⟩
 sK:=λid e s v cs hd hs=>by
  obtain⟨v1,AW,h1,h2,h3⟩:=k.sK id e s v cs (h.bA id hd) hs;obtain⟨v2,IM,g1,g2,g3⟩:=h.sK id e s v1 AW hd h1;exact⟨v2,IM,g1,yAW g2 h2,λheq=>(h3 ye).trans (g3 ye)⟩
 back:=λid bk hd hb hlt=>by
  obtain⟨q1,q2⟩:=k.back id bk hd hb (yBP hlt h.size);exact h.back id bk q1 q2 hlt
 frame:=λn hn hx=>by
  rw[k.frame n (yBP hn h.size) (λid hd hfl hb=>?_)]
  .exact h.frame n hn hx
  .obtain⟨q1,q2⟩:=h.back id n hd hb hn;exact hx id q1 hfl q2
 ro:=λid hlt hl=>(k.ro id hlt (yBP hl h.len)).trans (h.ro id hlt hl)
 hole:=λid hl hd=>(k.hole id (yBP hl h.len) (λhb=>(h.new id hb).elim hd (λq=>ye))).trans (h.hole id hl hd)
theorem Nx.weaken{fl dT:Nat}{a b:Cx}(h:Nx fl a b)(hle:dT<=fl):Nx dT a b:=
 { h with frame:=λk hk hx=>h.frame k hk (λid hd hf=>hx id hd (yAW hle hf)),ro:=λid hlt hl=>h.ro id (yBP hlt hle) hl }
structure Nv (c c':Cx):Prop where
 cell:∀a v,c.av a->c.w.cell? a=some v->c'.av a/\c'.w.cell? a=some v
 bA:∀id,c.D id->c'.D id
 rK:∀id p,c.D id->c.σ[id]?=some (.box p)->c'.ρ id=c.ρ id/\∃p',c'.σ[id]?=some (.box p')
 mG:∀id,c.D id->kL c.σ[id]?->c'.ρ id=c.ρ id/\kL c'.σ[id]?
 sJ:∀id e s n,c.D id->c.σ[id]?=some (.own e s n)->∃n',c'.σ[id]?=some (.own e s n')/\n<=n'/\(n'=n->c'.ρ id=c.ρ id)
 sK:∀id e s v cs,c.D id->c'.σ[id]?=some (.row e s v cs)->∃v0 cs0,c.σ[id]?=some (.row e s v0 cs0)/\v0<=v/\(v0=v->c'.ρ id=c.ρ id)
theorem Nx.RE{fl:Nat}{c c':Cx}(h:Nx fl c c'):Nv c c':=⟨h.cell,h.bA,h.rK,h.mG,h.sJ,h.sK⟩
theorem AX.mY{c c':Cx}(h:Nv c c'){id ver:Nat}{Q:Nat->Value->Prop}(hp:AX c id ver Q):AX c' id ver Q:=by
 refine⟨h.bA id hp.1,λe sz v cs hs=>?_⟩;obtain⟨v0,cs0,h1,h2,h3⟩:=h.sK id e sz v cs hp.1 hs;obtain⟨h4,h5⟩:=hp.2 e sz v0 cs0 h1;refine⟨yAW h4 h2,λheq=>?_⟩;rw[h3 ye];exact h5 ye
theorem qP.mY{c c':Cx}(h:Nv c c'){size n cap:Nat}{v:Value}{t:Tok}(ht:qP c size n cap v t):qP c' size n cap v t:=by
 cases t with
 |any=>trivial
 |full=>exact ht
 |nil=>exact ht
 |iK=>exact ht
 |jF=>exact ht
 |own id=>
  obtain⟨hd,e,m,hs,hle,he⟩:=ht;obtain⟨m',hs',hle',he'⟩:=h.sJ id e size m hd hs;exact⟨h.bA id hd,e,m',hs',yAW hle hle',λheq=>(he' ye).trans (he ye)⟩
theorem VR.mY{c c':Cx}(h:Nv c c'){v:Value}{p:PD}(hv:VR c v p):VR c' v p:=by
 induction hv with
 |bool b=>exact .bool b
 |int k n=>exact .int k n
 |str s=>exact .str s
 |agg cs ds hl h1 _ ih=>exact .agg cs ds hl h1 ih
 |slice A n cap size xs tok dT hn hc hm hx hf h1 hcell _ ht ih=>
  refine .slice A n cap size xs tok dT hn hc hm hx hf h1 (λj v hj=>?_) ih (ht.mY h);obtain⟨ad,e,h2,h3⟩:=hcell j v hj;obtain⟨q1,q2⟩:=h.cell _ _ h3 h2;exact⟨ad,e,q2,q1⟩
 |ptr id off b hd hs hr=>
  obtain⟨p,hs⟩:=hs;obtain⟨e,p',hs'⟩:=h.rK id p hd hs;exact .ptr id off b (h.bA id hd) ⟨p',hs'⟩ (e.trans hr)
 |cV id off n cap size b hd hs hr h1 h2=>
  obtain⟨p,hs⟩:=hs;obtain⟨e,p',hs'⟩:=h.rK id p hd hs;exact .cV id off n cap size b (h.bA id hd) ⟨p',hs'⟩ (e.trans hr) h1 h2
 |aU id ver off n cap size b hp h1 h2=>exact .aU id ver off n cap size b (hp.mY h) h1 h2
 |dH id ver off b hp=>exact .dH id ver off b (hp.mY h)
 |eO id b hd hn hr=>
  obtain⟨e,hn'⟩:=h.mG id hd hn;exact .eO id b (h.bA id hd) hn' (e.trans hr)
 |iface t v p _ ih=>exact .iface t v p ih
 |eB ad dT ds off hl h1 hcell _ ih=>
  refine .eB ad dT ds off hl h1 (λj v hj=>?_) ih;obtain⟨h2,h3⟩:=hcell j v hj;obtain⟨q1,q2⟩:=h.cell _ _ h3 h2;exact⟨q2,q1⟩
 |fV=>exact .fV
 |func f cs ds hl _ ih=>exact .func f cs ds hl ih
 |jH f cs ds hl _ ih=>exact .jH f cs ds hl ih
 |iB=>exact .iB
 |fF v h=>exact .fF v h
 |yield id l hd hn hr=>
  obtain⟨e,hn'⟩:=h.mG id hd hn;exact .yield id l (h.bA id hd) hn' (e.trans hr)
 |aP cs ds hl _ ih=>exact .aP cs ds hl ih
theorem VR.mono{fl:Nat}{c c':Cx}(h:Nx fl c c'){v:Value}{p:PD}(hv:VR c v p):VR c' v p:=hv.mY h.RE
theorem aS.mY{c c':Cx}(h:Nv c c'){cs:Fa}{ds:Ey}(hv:aS c cs ds):aS c' cs ds:=
 ⟨hv.1,λi v d h1 h2=>(hv.2 i v d h1 h2).mY h⟩
theorem MV.mY{c c':Cx}(h:Nv c c')(hg:MV c):MV c':=λg ds e=>(hg g ds e).mY h
theorem Gl.mono{fl:Nat}{c c':Cx}(h:Nx fl c c')(hg:Gl c):Gl c':=by
 refine⟨hg.1.mY h.RE,λg hh=>?_⟩;obtain⟨⟨cs,T,fz,e1,e2⟩,e3⟩:=hg.2 g hh;have hlt:g<c.w.heap.size:=(yDE.1 e1).1;refine⟨⟨cs,T,fz,?_,e2⟩,λid hd hb=>?_⟩
 .rw[h.frame g hlt (λid hd _=>e3 id hd)];exact e1
 .obtain⟨q1,q2⟩:=h.back id g hd hb hlt;exact e3 id q1 q2
theorem aS.mono{fl:Nat}{c c':Cx}(h:Nx fl c c'){cs:Fa}{ds:Ey}(hv:aS c cs ds):aS c' cs ds:=
 ⟨hv.1,λi v d h1 h2=>(hv.2 i v d h1 h2).mono h⟩
mutual
def PD.strip:PD->PD
 |.agg cs=>.agg (PD.mF cs)
 |.typed t cs=>.typed t (PD.mF cs)
 |.slice _ [] _=>.slice 0 [] .any
 |.slice n (x::xs) _=>.slice n (x.strip::PD.mF xs) .any
 |.aP vs=>.aP (PD.mF vs)
 |p=>p
def PD.mF:List PD->Ey
 | []=>[]
 |x::xs=>x.strip::PD.mF xs
end
mutual
def PD.bI:PD->Bool
 |.agg cs=>PD.eJ cs
 |.typed _ cs=>PD.eJ cs
 |.slice _ xs tok=>PD.eJ xs&&(match tok with|.own _=>false|_=>true)
 |.aP vs=>PD.eJ vs
 |.eB cs _=>PD.eJ cs
 |.func _ cap=>PD.eJ cap
 |.jH _ cap=>PD.eJ cap
 |.ptr _ _=>false
 |.cV _ _ _ _=>false
 |.aU _ _ _ _ _=>false
 |.dH _ _ _=>false
 |.eO _=>false
 |.iface _ p=>p.bI
 |.yield _=>false
 |_=>true
def PD.eJ:List PD->Bool
 | []=>true
 |x::xs=>x.bI&&PD.eJ xs
end
theorem PD.qI:∀xs:List PD,PD.mF xs=xs.map PD.strip
 | []=>by simp[PD.mF]
 |x::xs=>by simp[PD.mF,PD.qI xs]
theorem PD.rI:∀xs:List PD,PD.eJ xs=xs.all PD.bI
 | []=>by simp[PD.eJ]
 |x::xs=>by simp[PD.eJ,PD.rI xs]
theorem PD.aAI(p:PD):p.strip.cells=p.cells.map PD.strip:=by
 cases p with
 |slice n xs tok=>cases xs<;>simp[PD.strip,PD.cells]
 |_=>simp[PD.strip,PD.cells,PD.qI]
theorem PD.rH(n:Nat)(xs:List PD)(tok:Tok):PD.strip (.slice n xs tok)=.slice (if xs.length=0 then 0 else n) (xs.map PD.strip) .any:=by
 cases xs<;>simp[PD.strip,PD.qI]
theorem VR.strip{c:Cx}{v:Value}{p:PD}(hv:VR c v p):VR c v p.strip:=by
 induction hv with
 |bool b=>simp only[PD.strip];exact .bool b
 |int k n=>simp only[PD.strip];exact .int k n
 |str s=>simp only[PD.strip];exact .str s
 |agg cs ds hl h1 _ ih=>
  simp only[PD.strip,PD.qI];refine .agg cs _ Bb h1 (λi v d hv hd=>?_);exact iy
 |slice A n cap size xs tok fl hn hc hm hx hf h1 hcell _ ht ih=>
  rw[PD.rH];refine .slice A n cap _ _ .any fl Cj hc hm ?_ ?_ h1 hcell (λj v d hv hd=>?_) trivial
  .intro x hxm;obtain⟨y,hy,rfl⟩:=yAw.1 hxm;rw[PD.aAI,yAe,hx y hy];have:xs.length≠0:=λe=>by rw[yAf e]at hy;cases hy
   rw[yAI this]
  .rw[hf,hn];split
   .rename_i h0;rw[h0];simp
   .rfl
  .rw[List.flatMap_map]at hd;have e:(xs.flatMap λa=>(PD.strip a).cells)=(xs.flatMap PD.cells).map PD.strip:=by
    rw[List.map_flatMap];exact yAL (λf=>xs.flatMap f) (funext PD.aAI)
   rw[e,yAo]at hd;cases hx:(xs.flatMap PD.cells)[j]? with
   |none=>rw[hx]at hd;simp at hd
   |some x=>
    rw[hx]at hd;simp only[yAC,yAb]at hd;subst hd;exact ih j v x hv hx
 |ptr id off b hd hs hr=>simp only[PD.strip];exact .ptr id off b hd hs hr
 |cV id off n cap size b hd hs hr h1 h2=>simp only[PD.strip];exact .cV id off n cap size b hd hs hr h1 h2
 |aU id ver off n cap size b hp h1 h2=>simp only[PD.strip];exact .aU id ver off n cap size b hp h1 h2
 |dH id ver off b hp=>simp only[PD.strip];exact .dH id ver off b hp
 |eO id b hd hn hr=>simp only[PD.strip];exact .eO id b hd hn hr
 |iface t v p h _=>simp only[PD.strip];exact .iface t v p h
 |eB ad fl ds off hl h1 hcell h2 _=>simp only[PD.strip];exact .eB ad fl ds off hl h1 hcell h2
 |fV=>simp only[PD.strip];exact .fV
 |func f cs ds hl h _=>simp only[PD.strip];exact .func f cs ds hl h
 |jH f cs ds hl h _=>simp only[PD.strip];exact .jH f cs ds hl h
 |iB=>simp only[PD.strip];exact .iB
 |fF v h=>simp only[PD.strip];exact .fF v h
 |yield id l hd hn hr=>simp only[PD.strip];exact .yield id l hd hn hr
 |aP cs ds hl _ ih=>
  simp only[PD.strip,PD.qI];refine .aP cs _ Bb (λi v d hv hd=>?_);exact iy
theorem VR.free{c c':Cx}(hcell:∀a v,c.av a->c.w.cell? a=some v->c'.av a/\c'.w.cell? a=some v){v:Value}{p:PD}(hv:VR c v p):p.bI=true->VR c' v p:=by
 have at_:∀ {ds:Ey} {i:Nat} {d:PD},PD.eJ ds=true->ds[i]?=some d->d.bI=true:=by
  intro ds i d h hd;rw[PD.rI]at h;exact yAn.1 h d (yAE hd)
 induction hv with
 |bool b=>intro _;exact .bool b
 |int k n=>intro _;exact .int k n
 |str s=>intro _;exact .str s
 |agg cs ds hl h1 _ ih=>
  intro hp;simp only[PD.bI]at hp;exact tq
 |slice A n cap size xs tok dT hn hc hm hx hf h1 hcl _ ht ih=>
  intro hp;simp only[PD.bI,yAr]at hp;refine .slice A n cap size xs tok dT hn hc hm hx hf h1 (λj v hj=>?_) (λj v d hv hd=>ih j v d hv hd ?_) ?_
  .obtain⟨ad,e,h2,h3⟩:=hcl j v hj;obtain⟨q1,q2⟩:=hcell _ _ h3 h2;exact⟨ad,e,q2,q1⟩
  .obtain⟨x,hxm,hdm⟩:=yDe.1 (yAE hd);have hxf:x.bI=true:=by
    have:=hp.1;rw[PD.rI]at this;exact yAn.1 this x hxm
   cases x with
   |agg cs=>
    exact pg
   |typed t cs=>
    exact pg
   |_=>simp only[PD.cells,yCy]at hdm;rw[hdm];exact hxf
  .cases tok with
   |any=>trivial
   |full=>exact ht
   |nil=>exact ht
   |iK=>exact ht
   |jF=>exact ht
   |own id=>simp at hp
 |ptr id off b hd hs hr=>intro hp;simp[PD.bI]at hp
 |cV id off n cap size b hd hs hr h1 h2=>intro hp;simp[PD.bI]at hp
 |aU id ver off n cap size b hp h1 h2=>intro hp;simp[PD.bI]at hp
 |dH id ver off b hp=>intro hp;simp[PD.bI]at hp
 |eO id b hd hn hr=>intro hp;simp[PD.bI]at hp
 |iface t v p _ ih=>intro hp;simp only[PD.bI]at hp;exact .iface t v p (ih hp)
 |eB ad dT ds off hl h1 hcl _ ih=>
  intro hp;simp only[PD.bI]at hp;refine .eB ad dT ds off hl h1 (λj v hj=>?_) (λj v d hv hd=>ih j v d hv hd (at_ hp hd));obtain⟨h2,h3⟩:=hcl j v hj;obtain⟨q1,q2⟩:=hcell _ _ h3 h2;exact⟨q2,q1⟩
 |fV=>intro _;exact .fV
 |func f cs ds hl _ ih=>
  intro hp;simp only[PD.bI]at hp;exact .func f cs ds hl (λi v d hv hd=>ih i v d hv hd (at_ hp hd))
 |jH f cs ds hl _ ih=>
  intro hp;simp only[PD.bI]at hp;exact .jH f cs ds hl (λi v d hv hd=>ih i v d hv hd (at_ hp hd))
 |iB=>intro _;exact .iB
 |fF v h=>intro _;exact .fF v h
 |yield id l hd hn hr=>intro hp;simp[PD.bI]at hp
 |aP cs ds hl _ ih=>
  intro hp;simp only[PD.bI]at hp;exact uf
theorem aS.strip{c:Cx}{cs:Fa}{ds:Ey}(hv:aS c cs ds):aS c cs (ds.map PD.strip):=
 ⟨by simpa using hv.1,λi v d h1 h2=>by
  rw[yAo]at h2;cases hx:ds[i]? with
  |none=>rw[hx]at h2;simp at h2
  |some x=>
   rw[hx]at h2;simp only[yAC,yAb]at h2;subst h2;exact(hv.2 i v x h1 hx).strip⟩
theorem aS.free{c c':Cx}(hcell:∀a v,c.av a->c.w.cell? a=some v->c'.av a/\c'.w.cell? a=some v){cs:Fa}{ds:Ey}(hv:aS c cs ds)(h:PD.eJ ds=true):aS c' cs ds:=
 ⟨hv.1,λi v d h1 h2=>(hv.2 i v d h1 h2).free hcell (by
  rw[PD.rI]at h;exact yAn.1 h d (yAE h2))⟩
end
def PD.plain:PD->Bool
 |.agg _|.aP _|.typed _ _=>false
 |_=>true
def tU:Value->Option PD
 |.bool b=>some (.bool b)
 |.int k n=>some (.int k n)
 |.string s=>some (.str s.data.toList)
 |.slice none 0 0=>some (.slice 0 [] .full)
 |.pointer none=>some .fV
 |.nilFunc=>some .iB
 |.nilIface=>some (.fF .nilIface)
 |.map none=>some (.fF (.map none))
 |_=>none
def tV:List Value->Option (List PD)
 | []=>some []
 |v::vs=>match tU v,tV vs with
  |some p,some ps=>some (p::ps)
  |_,_=>none
def ofValue:Value->Option PD
 |.agg cs=>match tV cs.toList with|some ps=>some (.agg ps)|none=>none
 |.tuple vs=>if vs.size=0 then some (.aP [])else none
 |v=>tU v
def eE(P:Program)(t:TypeId):Option PD:=
 match P.info? t with
 |some i=>match i.zero with|some z=>ofValue z|none=>none
 |none=>none
def bT(P:Program)(t:TypeId):Option Nat:=match P.info? t with|some i=>some i.size|none=>none
def fB(P:Program)(t:TypeId):Option Bool:=
 match P.underlying t with
 |some (.struct _)|some (.array _ _)=>some true
 |some _=>some false
 |none=>none
def aX(fr:List PD):Operand->Option PD
 |.tmp t=>some (fr.getD t (.aP []))
 |.const v=>ofValue v
 |.func f=>some (.func f [])
 |.global g=>match xY g with
   |some ds=>some (.eB ds 0)
   |none=>none
def jT(fr:List PD):List Operand->Option (List PD)
 | []=>some []
 |x::xs=>match aX fr x,jT fr xs with
  |some p,some ps=>some (p::ps)
  |_,_=>none
def mT(P:Program)(t:TypeId)(cs:List PD)(off:Nat):Option PD:=
 match fB P t,bT P t with
 |some true,some n=>if off+n<=cs.length then some (.agg ((cs.drop off).take n))else none
 |some false,some _=>cs[off]?
 |_,_=>none
def AL(op:BinOp)(k:IntKind)(x y:Int):Option Int:=
 match op with
 |.and=>some (k.wrap ((BitVec.ofInt k.bits x) &&& (BitVec.ofInt k.bits y)).toNat)
 |.or=>some (k.wrap ((BitVec.ofInt k.bits x) ||| (BitVec.ofInt k.bits y)).toNat)
 |.xor=>some (k.wrap ((BitVec.ofInt k.bits x) ^^^ (BitVec.ofInt k.bits y)).toNat)
 |.andNot=>some (k.wrap ((BitVec.ofInt k.bits x) &&& ~~~(BitVec.ofInt k.bits y)).toNat)
 |_=>none
def gI(op:BinOp)(k:IntKind)(x y:Int):Option PD:=
 match op with
 |.add=>some (.int k (k.wrap (x+y)))
 |.sub=>some (.int k (k.wrap (x-y)))
 |.mul=>some (.int k (k.wrap (x*y)))
 |.quo=>if y=0 then none else some (.int k (k.wrap (x.tdiv y)))
 |.rem=>if y=0 then none else some (.int k (x.tmod y))
 |.eql=>some (.bool (x==y))
 |.neq=>some (.bool (x != y))
 |.lss=>some (.bool (decide (x<y)))
 |.leq=>some (.bool (decide (x<=y)))
 |.gtr=>some (.bool (decide (x > y)))
 |.geq=>some (.bool (decide (x >= y)))
 |.and|.or|.xor|.andNot=>match AL op k x y with|some z=>some (.int k z)|none=>none
 |_=>none
def HR(op:BinOp)(k:IntKind)(x y:Int):Option PD:=
 if y<0 then none else
 match op with
 |.shl=>some (.int k (k.wrap (x*2^(min y.toNat k.bits))))
 |.shr=>some (.int k (x.fdiv (2^(min y.toNat k.bits))))
 |_=>none
def HQ(op:BinOp)(x y:List UInt8):Option PD:=
 match op with
 |.add=>if x.length+y.length<=maxLen then some (.str (x++y))else none
 |.eql=>some (.bool (x==y))
 |.neq=>some (.bool (!(x==y)))
 |.lss=>some (.bool (Op.bytesLess x y))
 |.leq=>some (.bool (Op.bytesLess x y||x==y))
 |.gtr=>some (.bool (!(Op.bytesLess x y||x==y)))
 |.geq=>some (.bool (!(Op.bytesLess x y)))
 |_=>none
def x9(eq:TypeId->PD->PD->Option Bool)(P:Program)(xs ys:List PD):List Field->Option Bool
 | []=>some true
 |f::fs=>
  if f.name= "_" then x9 eq P xs ys fs
  else match mT P f.type xs f.offset,mT P f.type ys f.offset with
   |some a,some b=>match eq f.type a b with
    |some true=>x9 eq P xs ys fs
    |some false=>some false
    |none=>none
   |_,_=>none
def AG(eq:PD->PD->Option Bool)(P:Program)(e:TypeId)(n:Nat)(xs ys:List PD):Nat->Nat->Option Bool
 |_,0=>some true
 |i,m+1=>match mT P e xs (i*n),mT P e ys (i*n)with
  |some a,some b=>match eq a b with
   |some true=>AG eq P e n xs ys (i+1) m
   |some false=>some false
   |none=>none
  |_,_=>none
def kJ(P:Program):Nat->TypeId->PD->PD->Option Bool
 |0,_,_,_=>none
 |d+1,t,x,y=>
  match P.underlying t with
  |some .bool=>match x,y with|.bool a,.bool b=>some (a==b)|_,_=>none
  |some (.int _)=>match x,y with|.int k a,.int k' b=>if k=k' then some (a==b)else none|_,_=>none
  |some .string=>match x,y with|.str a,.str b=>some (a==b)|_,_=>none
  |some (.pointer _)=>match x,y with
   |.fV,.fV=>some true
   |.fV,.ptr _ _=>some false
   |.fV,.eB _ _=>some false
   |.ptr _ _,.fV=>some false
   |.eB _ _,.fV=>some false
   |_,_=>none
  |some (.func ..)=>match x,y with
   |.iB,.iB=>some true
   |.iB,.func _ _=>some false
   |.func _ _,.iB=>some false
   |_,_=>none
  |some (.struct fs)=>match x,y with
   |.agg xs,.agg ys=>if P.stoodInHeld t then none else x9 (kJ P d) P xs ys fs.toList
   |_,_=>none
  |some (.array len e)=>match x,y with
   |.agg xs,.agg ys=>match bT P e with
     |some n=>AG (kJ P d e) P e n xs ys 0 len
     |none=>none
   |_,_=>none
  |_=>none
def oL(P:Program)(t:TypeId)(x y:PD):Option Bool:=
 match x,y with
 |.agg _,.agg _=>if P.eqGuardType P.depth t then none else kJ P 12 t x y
 |_,_=>kJ P 12 t x y
def dF(P:Program)(op:BinOp)(t:TypeId)(x y:PD):Option PD:=
 match x,y with
 |.int k a,.int k' b=>
   match op with
   |.shl|.shr=>HR op k a b
   |_=>if k=k' then gI op k a b else none
 |.str a,.str b=>HQ op a b
 |_,_=>
  match op with
  |.eql=>match oL P t x y with|some b=>some (.bool b)|none=>none
  |.neq=>match oL P t x y with|some b=>some (.bool (!b))|none=>none
  |_=>none
def EJ(op:UnOp)(x:PD):Option PD:=
 match op,x with
 |.neg,.int k n=>some (.int k (k.wrap (0-n)))
 |.xor,.int k n=>match AL .xor k (if k.signed then -1 else k.max) n with|some z=>some (.int k z)|none=>none
 |.not,.bool b=>some (.bool (!b))
 |_,_=>none
def HO(P:Program)(src dst:TypeId)(x:PD):Option PD:=
 match P.underlying src,P.underlying dst,x with
 |some (.int _),some (.int k),.int _ n=>some (.int k (k.wrap n))
 |some .string,some .string,.str s=>some (.str s)
 |_,_,_=>none
def fK:Option PD->Option Nat
 |some (.int _ i)=>if 0<=i then some i.toNat else none
 |_=>none
def kK(n:Nat)(lo hi:Option (Option PD)):Option (Nat×Nat):=
 match (match hi with|some h=>fK h|none=>some n),(match lo with|some l=>fK l|none=>some 0)with
 |some h,some l=>if l<=h/\h<=n then some (l,h)else none
 |_,_=>none
def jY(P:Program)(t:TypeId)(x:PD)(lo hi mx:Option (Option PD)):Option PD:=
 match P.underlying t,x with
 |some .string,.str s=>
  if mx.isSome then none else
  match kK s.length lo hi with
  |some (l,h)=>some (.str ((s.drop l).take (h-l)))
  |none=>none
 |some (.slice e),.slice size xs tok=>
  match bT P e,kK xs.length lo hi with
  |some n,some (l,h)=>
   if xs.length=0\/n=size then
    match mx with
    |none=>some (.slice size ((xs.drop l).take (h-l))
      (if h=xs.length then(match tok with|.full=>.full|.own id=>if l=0 then .own id else .any|_=>.any)else .any))
    |some m=>match hi,fK m with
     |some _,some m=>if h<=m/\m<=xs.length then some (.slice size ((xs.drop l).take (h-l)) (if m=h then .full else .any))else none
     |_,_=>none
   else none
  |_,_=>none
 |some (.slice e),.cV id off m size=>
  match bT P e,kK m lo hi,mx with
  |some n,some (l,h),none=>if n=size/\(l=0\/l<m)then some (.cV id (off+l*n) (h-l) n)else none
  |_,_,_=>none
 |some (.slice e),.aU id ver off m size=>
  match bT P e,kK m lo hi with
  |some n,some (l,h)=>
   if n=size then
    match mx with
    |none=>if l=0\/l<m then some (.aU id ver (off+l*n) (h-l) n)else some (.slice n [] .any)
    |some mv=>match hi,fK mv with
     |some _,some k=>if k=h/\l=h then some (.slice n [] .full)else none
     |_,_=>none
   else none
  |_,_=>none
 |some (.array len e),.ptr id off=>
  match bT P e,kK len lo hi,mx with
  |some n,some (l,h),none=>if len<=1000000/\(l=0\/l<len)then some (.cV id (off+l*n) (h-l) n)else none
  |_,_,_=>none
 |_,_=>none
def AH(P:Program)(s:TypeId)(x:PD)(f:Nat):Option PD:=
 match P.underlying s with
 |some (.struct fs)=>match fs[f]? with
  |some fd=>match bT P fd.type with
   |some n=>if n=0 then none else match x with
    |.ptr id off=>some (.ptr id (off+fd.offset))
    |.eB cs off=>some (.eB cs (off+fd.offset))
    |.dH id ver off=>some (.dH id ver (off+fd.offset))
    |_=>none
   |none=>none
  |none=>none
 |_=>none
def LV(P:Program)(t:TypeId)(x:PD)(f:Nat):Option PD:=
 match P.underlying t,x with
 |some (.struct fs),.agg cs=>match fs[f]? with
  |some fd=>mT P fd.type cs fd.offset
  |none=>none
 |_,_=>none
def nP(P:Program)(t:TypeId)(x:PD)(i:PD):Option PD:=
 match fK (some i),P.underlying t with
 |some i,some (.array len e)=>match bT P e with
  |some n=>if i<len then(match x with
    |.ptr id off=>some (.ptr id (off+i*n))
    |.eB cs off=>some (.eB cs (off+i*n))
    |.dH id ver off=>some (.dH id ver (off+i*n))
    |_=>none)else none
  |none=>none
 |some i,some (.slice e)=>match x,bT P e with
  |.slice size xs _,some n=>if (xs.length=0\/n=size)/\0<n then(match xs[i]? with
    |some p=>some (.eB p.cells 0)
    |none=>none)else none
  |.cV id off m size,some n=>if n=size/\i<m then some (.ptr id (off+i*n))else none
  |.aU id ver off m size,some n=>if n=size/\i<m then some (.dH id ver (off+i*n))else none
  |_,_=>none
 |_,_=>none
def yJ(P:Program)(t:TypeId)(x:PD)(i:PD):Option PD:=
 match fK (some i),P.underlying t,x with
 |some i,some (.array len e),.agg cs=>match bT P e with
  |some n=>if i<len then mT P e cs (i*n)else none
  |none=>none
 |some i,some .string,.str s=>match s[i]? with|some b=>some (.int .u8 b.toNat)|none=>none
 |_,_,_=>none
def ER(P:Program):List Field->Option (List (Nat×Nat))
 | []=>some []
 |f::fs=>match bT P f.type,ER P fs with
  |some n,some ps=>some ((f.offset,n)::ps)
  |_,_=>none
def eC(cs:List PD)(off:Nat)(new:List PD):List PD:=cs.take off++new++cs.drop (off+new.length)
def wT(place:Nat->Option (Nat×Nat))(cs:List PD):List (Nat×PD)->Option (List PD)
 | []=>some cs
 |(i,p)::rest=>match place i with
  |none=>none
  |some (off,n)=>if p.cells.length≠n\/off+p.cells.length > cs.length\/p.cells.all PD.plain=false then none else wT place (eC cs off p.cells) rest
def pI(fr:List PD):List (Nat×Operand)->Option (List (Nat×PD))
 | []=>some []
 |(i,x)::r=>match aX fr x,pI fr r with
  |some p,some ps=>some ((i,p)::ps)
  |_,_=>none
def CM(P:Program)(t:TypeId)(parts:List (Nat×PD)):Option PD:=
 match eE P t with
 |some (.agg z)=>match P.underlying t with
  |some (.struct fs)=>match ER P fs.toList with
   |some pl=>match wT (pl[·]?) z parts with|some cs=>some (.agg cs)|none=>none
   |none=>none
  |some (.array _ e)=>match bT P e with
   |some n=>match wT (λi=>some (i*n,n)) z parts with|some cs=>some (.agg cs)|none=>none
   |none=>none
  |_=>none
 |_=>none
def CP(lt:Bool):PD->List PD->Option PD
 |.int k x,[]=>some (.int k x)
 |.int k x,.int _ y::r=>CP lt (.int k (if lt then(if y<x then y else x)else(if y > x then y else x))) r
 |_,_=>none
def jE(P:Program)(b:Builtin)(argTypes:Array TypeId)(args:List PD):Option PD:=
 match b with
 |.len=>match argTypes[0]? with
   |some t=>match P.underlying t,args with
    |some .string,.str s::_=>some (.int .i64 s.length)
    |some (.array n _),_::_=>some (.int .i64 n)
    |some (.slice _),.slice _ xs _::_=>some (.int .i64 xs.length)
    |some (.slice _),.cV _ _ n _::_=>some (.int .i64 n)
    |some (.slice _),.aU _ _ _ n _::_=>some (.int .i64 n)
    |_,_=>none
   |none=>none
 |.min=>match args with|x::r=>CP true x r | []=>none
 |.max=>match args with|x::r=>CP false x r | []=>none
 |.cap=>match argTypes[0]? with
   |some t=>match P.underlying t,args with
    |some (.slice _),.slice _ xs .full::_=>some (.int .i64 xs.length)
    |_,_=>none
   |none=>none
 |_=>none
def fU:PD->Option Bool
 |.slice n xs tok=>if xs.length≠0/\n≠0 then some false else(match tok with
   |.nil=>some true
   |.iK=>some true
   |.jF=>some false
   |_=>none)
 |.cV _ _ _ _=>some false
 |.aU _ _ _ _ _=>some false
 |_=>none
def AJ(P:Program)(op:BinOp)(t:TypeId)(a:PD)(y:Operand):Option PD:=
 match y with
 |.const (.slice none 0 0)=>(match P.underlying t with
   |some (.slice _)=>(match op,fU a with
    |.eql,some b=>some (.bool b)
    |.neq,some b=>some (.bool (!b))
    |_,_=>none)
   |_=>none)
 |_=>none
def dL(P:Program)(fr:List PD):Op->Option PD
 |.move x|.assign x=>aX fr x
 |.pick c a b=>match aX fr c with
   |some (.bool true)=>aX fr a
   |some (.bool false)=>aX fr b
   |_=>none
 |.binOp op t x y _=>match aX fr x,aX fr y with
   |some a,some b=>(match dF P op t a b with|some r=>some r|none=>AJ P op t a y)
   |_,_=>none
 |.unOp op _ x=>match aX fr x with|some a=>EJ op a|none=>none
 |.convert s d x=>if CN s d=true then none else match aX fr x with|some a=>HO P s d a|none=>none
 |.makeFunc (.func f) first captured=>if first.size=0 then(match jT fr captured.toList with|some ps=>some (.func f ps)|none=>none)
   else if captured.size=0 then(match jT fr first.toList with|some ps=>some (.jH f ps)|none=>none)else none
 |.slice t x lo hi mx=>match aX fr x with
   |some a=>jY P t a (lo.map (aX fr)) (hi.map (aX fr)) (mx.map (aX fr))
   |none=>none
 |.fieldAddr s x f=>match aX fr x with|some a=>AH P s a f|none=>none
 |.field t x f=>match aX fr x with|some a=>LV P t a f|none=>none
 |.indexAddr t x i=>match aX fr x,aX fr i with
   |some a,some b=>nP P t a b
   |_,_=>none
 |.index t x i=>match aX fr x,aX fr i with
   |some a,some b=>yJ P t a b
   |_,_=>none
 |.extract x i=>match aX fr x with
   |some (.aP vs)=>vs[i]?
   |_=>none
 |.nilCheck x=>match aX fr x with
   |some (.ptr id off)=>some (.ptr id off)
   |some (.eB cs off)=>some (.eB cs off)
   |some (.dH id ver off)=>some (.dH id ver off)
   |_=>none
 |.build t parts=>match pI fr parts.toList with|some ps=>CM P t ps|none=>none
 |.call { callee:=.builtin b,args:=args,argTypes:=ts }=>match jT fr args.toList with
   |some ps=>jE P b ts ps
   |none=>none
 |_=>none
def oM(P:Program)(σ:List aB)(t:TypeId):PD->Option PD
 |.ptr id off=>match σ[id]? with
   |some (.box p)=>mT P t p.cells off
   |_=>none
 |.eB cs off=>mT P t cs off
 |.dH id ver off=>match σ[id]? with
   |some (.row _ _ eX cs)=>if ver=eX then mT P t cs off else none
   |_=>none
 |_=>none
def u5:PD->PD
 |.slice 0 [] .full=>.slice 0 [] .nil
 |p=>p
def boxed(t:TypeId):PD->PD
 |.agg cs=>if LW t=true then .typed t (cs.map u5)else .agg cs
 |p=>p
def PD.setCells(p:PD)(off:Nat)(new:List PD):Option PD:=
 match p with
 |.agg cs=>if off+new.length<=cs.length then some (.agg (eC cs off new))else none
 |.typed t cs=>if off+new.length<=cs.length then some (.typed t (eC cs off new))else none
 |_=>if off=0 then(match new with | [q]=>some q|_=>none)else none
def pH(P:Program)(fl:Nat)(σ:List aB)(t:TypeId)(a p:PD):Option (List aB):=
 match a with
 |.ptr id off=>if fl<=id then(match σ[id]?,bT P t with
   |some (.box q),some n=>if p.cells.length=n/\p.cells.all PD.plain=true then(match q.setCells off p.cells with
     |some q'=>some (σ.set id (.box q'))
     |none=>none)else none
   |_,_=>none)else none
 |.dH id ver off=>if fl<=id then(match σ[id]?,bT P t with
   |some (.row e sz eX cs),some n=>if ver=eX/\p.cells.length=n/\p.cells.all PD.plain=true/\off+n<=cs.length then some (σ.set id (.row e sz ver (eC cs off p.cells)))else none
   |_,_=>none)else none
 |_=>none
def EP(i:Nat):List (Nat×PD)->Option (List PD)
 | []=>some []
 |(j,p)::r=>if j=i then(match EP (i+1) r with|some ps=>some (p::ps)|none=>none)else none
def sE(P:Program)(t:TypeId)(len:Nat)(parts:List (Nat×PD)):Option PD:=
 match P.underlying t with
 |some (.slice e)=>match bT P e,eE P e,EP 0 parts with
  |some n,some z,some ps=>
   if ps.length=len/\0<n/\len*n<=16777216/\ps.all (λp=>p.cells.length=n&&p.cells.all PD.plain)=true/\z.cells.length=n/\z.cells.all PD.plain=true then some (.slice n ps .full)else none
  |_,_,_=>none
 |_=>none
def LX(P:Program)(t:TypeId):Bool:=
 match P.underlying t with
 |some (.slice e)=>match P.info? e with
  |some i=>match i.zero with
   |some (.int .u8 0)=>i.size==1&&i.bytes==1
   |_=>false
  |none=>false
 |_=>false
def fA(P:Program)(fl:Nat)(σ:List aB)(t:TypeId)(s x:PD):Option (PD×List aB):=
 match P.underlying t with
 |some (.slice e)=>match P.info? e with
  |some i=>match i.zero,s,x with
   |some z,.slice sz xs tok,.slice sz' ys _=>
    if (xs.length=0\/sz=i.size)/\(ys.length=0\/sz'=i.size)/\0<i.size/\z.cells.size=i.size/\xs.length+ys.length<=maxLen /\
        (xs.length+ys.length)*i.bytes<=140737488355328 then
     if ys.length=0 then some (s,σ)else
     match tok with
     |.full=>some (.slice i.size (xs++ys) (.own σ.length),σ++[.own e i.size (xs.length+ys.length)])
     |.nil=>some (.slice i.size (xs++ys) (.own σ.length),σ++[.own e i.size (xs.length+ys.length)])
     |.own id=>if fl<=id/\sz=i.size then(match σ[id]? with
       |some (.own e' kP n)=>if e'=e/\kP=i.size/\n=xs.length then
         some (.slice i.size (xs++ys) (.own id),σ.set id (.own e i.size (xs.length+ys.length)))else none
       |_=>none)else none
     |_=>none
    else none
   |_,_,_=>none
  |none=>none
 |_=>none
def uE(z:PD)(n l:Nat):List PD:=(List.range (l*n)).map λk=>z.cells.getD (k%n) (.aP [])
def qO(n:Nat):Nat->List PD->Ey
 |0,_=>[]
 |k+1,cs=>.agg (cs.take n)::qO n k (cs.drop n)
def u6(σ:List aB):PD->Option (Nat×List PD)
 |.slice sz ys _=>some (sz,ys)
 |.aU id ver off n sz=>match σ[id]? with
   |some (.row _ sz' eX cs)=>if ver=eX/\sz'=sz/\off+n*sz<=cs.length then some (sz,qO sz n (cs.drop off))else none
   |_=>none
 |.cV id off n sz=>match σ[id]? with
   |some (.box q)=>if off+n*sz<=q.cells.length then some (sz,qO sz n (q.cells.drop off))else none
   |_=>none
 |_=>none
def Tok.fresh:Tok->Bool
 |.full=>true
 |_=>false
def cX(P:Program)(n:Nat)(fl:Nat)(σ:List aB)(t:TypeId)(s x:PD):Option (PD×List aB):=
 if gH t n=true then
  match P.underlying t,u6 σ x with
  |some (.slice e),some (sz',ys)=>match P.info? e with
   |some i=>match i.zero with
    |some z=>
     if (ys.length=0\/sz'=i.size)/\0<i.size/\z.cells.size=i.size/\z.cells.toList.all Value.oneCell'=true then
      match s with
      |.slice sz xs tok=>
        if (xs.length=0\/sz=i.size)/\xs.length+ys.length<=maxLen/\(xs.length+ys.length)*i.bytes<=140737488355328/\tok.fresh=true then
         if ys.length=0 then some (s,σ)
         else some (.aU σ.length 0 0 (xs.length+ys.length) i.size,σ++[.row e i.size 0 ((xs++ys).flatMap PD.cells)])
        else none
      |.aU id ver off n sz=>
        if fl<=id/\sz=i.size/\n+ys.length<=maxLen/\(n+ys.length)*i.bytes<=140737488355328 then
         match σ[id]? with
         |some (.row e' kP eX cs)=>
          if e'=e/\kP=i.size/\eX=ver then
           if off+(n+ys.length)*i.size<=cs.length then some (.aU id ver off (n+ys.length) i.size,σ.set id (.row e i.size ver (eC cs (off+n*i.size) (ys.flatMap PD.cells))))
           else if off=0/\n*i.size=cs.length then some (.aU id (ver+1) 0 (n+ys.length) i.size,σ.set id (.row e i.size (ver+1) (cs++ys.flatMap PD.cells)))
           else none
          else none
         |_=>none
        else none
      |_=>none
     else none
    |none=>none
   |none=>none
  |_,_=>none
 else none
def ES(P:Program)(n:Nat)(σ:List aB)(t:TypeId)(s:PD)(m:Int):Option (PD×List aB):=none
def RF(P:Program)(fl:Nat)(σ:List aB)(t:TypeId)(s:PD):Option (List aB):=none
def RG(P:Program)(fl:Nat)(σ:List aB)(dt st:TypeId)(d x:PD):Option (PD×List aB):=none
def FD(P:Program)(kt:TypeId)(k:PD):Bool:=
 match P.underlying kt,k with
 |some .string,.str _=>true
 |some (.int k0),.int k1 _=>k0==k1
 |_,_=>false
def C1:PD->PD->Option Bool
 |.str a,.str b=>some (a==b)
 |.int k a,.int k' b=>if k=k' then some (a==b)else none
 |_,_=>none
def vA(k:PD):List (PD×PD)->Nat->Option (Option (Nat×PD))
 | [],_=>some none
 |e::es,i=>match C1 k e.1 with
  |some true=>some (some (i,e.2))
  |some false=>vA k es (i+1)
  |none=>none
def FE(P:Program)(σ:List aB)(t:TypeId)(x k:PD)(ok:Bool):Option PD:=
 match P.underlying t with
 |some (.map kt e)=>if FD P kt k=true then(match x with
   |.eO id=>(match σ[id]? with
     |some (.map es)=>(match vA k es 0 with
      |some (some (_,v))=>some (if ok then .aP [v,.bool true]else v)
      |some none=>(match eE P e with
       |some z=>some (if ok then .aP [z,.bool false]else z)
       |none=>none)
      |none=>none)
     |_=>none)
   |.fF (.map none)=>(match eE P e with
     |some z=>some (if ok then .aP [z,.bool false]else z)
     |none=>none)
   |_=>none)else none
 |_=>none
def FF(P:Program)(fl:Nat)(σ:List aB)(t:TypeId)(x k v:PD):Option (List aB):=
 match P.underlying t with
 |some (.map kt _)=>if FD P kt k=true then(match x with
   |.eO id=>if fl<=id then(match σ[id]? with
     |some (.map es)=>(match vA k es 0 with
      |some (some (i,_))=>some (σ.set id (.map (es.set i (k,v))))
      |some none=>some (σ.set id (.map (es++[(k,v)])))
      |none=>none)
     |_=>none)else none
   |_=>none)else none
 |_=>none
def CQ:List PD->Option (List UInt8)
 | []=>some []
 |.int .u8 n::r=>match CQ r with|some l=>some (UInt8.ofNat n.toNat::l)|none=>none
 |_=>none
def HN(P:Program)(s d:TypeId)(x:PD):Option PD:=
 match P.underlying s,P.underlying d,x with
 |some .string,some (.slice e),.str l=>match P.underlying e with
  |some (.int .u8)=>if l.length<=maxLen then some (.slice 1 (l.map λb=>.int .u8 b.toNat) .any)else none
  |_=>none
 |some (.slice e),some .string,.slice sz xs _=>match P.underlying e with
  |some (.int .u8)=>if xs.length=0\/sz=1 then(match CQ xs with|some l=>some (.str l)|none=>none)else none
  |_=>none
 |_,_,_=>none
def yN(σ:List aB):PD->Option (List PD)
 |.cV id off n size=>if size=1 then(match σ[id]? with
   |some (.box p)=>if off+n<=p.cells.length then some ((p.cells.drop off).take n)else none
   |_=>none)else none
 |_=>none
def AQ(P:Program)(σ:List aB)(s d:TypeId)(x:PD):Option PD:=
 match yN σ x,P.underlying s,P.underlying d with
 |some xs,some (.slice e),some .string=>(match P.underlying e,CQ xs with
  |some (.int .u8),some l=>some (.str l)
  |_,_=>none)
 |_,_,_=>none
def sA(P:Program)(σ:List aB)(t e:TypeId)(l k:Nat):Option (PD×List aB):=
 match P.info? e,bT P e,eE P e with
 |some i,some n,some z=>
  if l<=k/\0<n/\z.cells.length=n/\z.cells.all PD.plain=true/\k<=maxLen/\k*i.bytes<=140737488355328 then
   if l=0/\k≠0 then some (.slice n [] (.own σ.length),σ++[.own e n 0])
   else if l=k then
    if Q6 t=true then some (.cV σ.length 0 l n,σ++[.box (.agg (uE z n l))])else some (.slice n (List.replicate l z) .full,σ)
   else none
  else none
 |_,_,_=>none
def cJ(P:Program)(fl:Nat)(fr:List PD)(σ:List aB):Op->Option (PD×List aB)
 |.load t x=>match aX fr x with
   |some a=>(match oM P σ t a with|some p=>some (p,σ)|none=>none)
   |none=>none
 |.store t x y=>match aX fr x,aX fr y with
   |some a,some p=>(match pH P fl σ t a p with|some σ'=>some (.aP [],σ')|none=>none)
   |_,_=>none
 |.alloc t=>match eE P t with
   |some p=>if p.cells.all PD.plain then some (.ptr σ.length 0,σ++[.box (boxed t p)])else none
   |none=>none
 |.box _ x=>match aX fr x with
   |some p=>if p.cells.all PD.plain then some (.ptr σ.length 0,σ++[.box p])else none
   |none=>none
 |.buildSlice t len parts=>match pI fr parts.toList with
   |some ps=>(match sE P t len (ps.map λq=>(q.1,q.2.strip))with|some p=>some (p,σ)|none=>none)
   |none=>none
 |.convert s d x=>if CN s d=true then(match aX fr x with
   |some a=>(match HN P s d a with|some p=>some (p,σ)|none=>(match AQ P σ s d a with|some p=>some (p,σ)|none=>none))
   |none=>none)else none
 |.makeSlice t l k=>match P.underlying t,fK (aX fr l),fK (aX fr k)with
   |some (.slice e),some l,some k=>sA P σ t e l k
   |_,_,_=>none
 |.call { callee:=.builtin .clear,args:=args,argTypes:=ts }=>match jT fr args.toList,ts.toList with
   |some [s],[t]=>(match RF P fl σ t s with|some σ'=>some (.aP [],σ')|none=>none)
   |_,_=>none
 |.call { callee:=.builtin .copy,args:=args,argTypes:=ts }=>match jT fr args.toList,ts.toList with
   |some [d,x],[t,t']=>RG P fl σ t t' d x
   |_,_=>none
 |.makeMap t none=>match P.underlying t with
   |some (.map _ _)=>some (.eO σ.length,σ++[.map []])
   |_=>none
 |.lookup t x k ok=>match aX fr x,aX fr k with
   |some m,some k=>(match FE P σ t m k ok with|some p=>some (p,σ)|none=>none)
   |_,_=>none
 |.mapUpdate t x k v=>match aX fr x,aX fr k,aX fr v with
   |some m,some k,some v=>(match FF P fl σ t m k v with|some σ'=>some (.aP [],σ')|none=>none)
   |_,_,_=>none
 |.call { callee:=.builtin .append,args:=args,argTypes:=ts }=>match jT fr args.toList,ts.toList with
   |some [s,x],[t,t']=>if t=t' then(match cX P fr.length fl σ t s x with|some r=>some r|none=>fA P fl σ t s x.strip)else(match P.underlying t',x with
    |some .string,.str l=>if LX P t=true then(fA P fl σ t s (.slice (if l.length=0 then 0 else 1) (l.map λb=>.int .u8 b.toNat) .any))else none
    |some (.int .i64),.int .i64 m=>ES P fr.length σ t s m
    |_,_=>none)
   |_,_=>none
 |_=>none
def pop(P:Program)(fl:Nat)(fr:List PD)(σ:List aB)(op:Op):Option (PD×List aB):=
 match dL P fr op with
 |some p=>some (p,σ)
 |none=>cJ P fl fr σ op
def fJ(fr:List PD):Op->Option ((FuncId ⊕ Nat)×List PD)
 |.call { callee:=.value g,args:=args,.. }=>match aX fr g,jT fr args.toList with
   |some (.func f cap),some ps=>some (.inl f,ps++cap)
   |some (.jH f first),some ps=>some (.inl f,first++ps)
   |some (.yield id),some ps=>some (.inr id,ps)
   |_,_=>none
 |_=>none
def aW(fr:List PD)(dst:Option Tmp)(p:PD):List PD:=
 match dst with
 |some d=>fr.set d p
 |none=>fr
def bM(ops:Array Oper)(fr:List PD)(j:Nat):Option Bool:=
 match (ops[j]?).bind (·.dst)with
 |some d=>match fr[d]? with
  |some (.bool b)=>some b
  |_=>none
 |none=>none
section
theorem RQ{c:Cx}{v:Value}{p:PD}(h:tU v=some p):VR c v p/\v.oneCell'=true:=by
 unfold tU at h;split at h<;>simp at h<;>subst h
 .exact⟨.bool _,rfl⟩
 .exact⟨.int _ _,rfl⟩
 .rename_i s;refine⟨?_,rfl⟩;exact rq
 .refine⟨.slice none 0 0 0 [] .full [] rfl (yAk _) (by simp[maxLen]) yg rfl yg yg yg rfl,rfl⟩
 .exact⟨.fV,rfl⟩
 .exact⟨.iB,rfl⟩
 .exact⟨.fF _ rfl,rfl⟩
 .exact⟨.fF _ rfl,rfl⟩
theorem aAH{c:Cx}:∀ {vs:Fa} {ps:Ey},tV vs=some ps->aS c vs ps/\∀v∈vs,v.oneCell'=true
 | [],ps,h=>by simp[tV]at h;subst h;exact⟨⟨rfl,yg⟩,yg⟩
 |v::vs,ps,h=>by
  unfold tV at h;cases h1:tU v with
  |none=>simp[h1]at h
  |some p=>
   cases h2:tV vs with
   |none=>simp[h1,h2]at h
   |some qs=>
    simp[h1,h2]at h;subst h;have⟨a1,a2⟩:=RQ (c:=c) h1;have⟨⟨b1,b2⟩,b3⟩:=aAH (c:=c) h2;refine⟨⟨by simp[b1],λi v' d hv hd=>?_⟩,by simp[a2];exact b3⟩;exact jm
theorem RR{c:Cx}{v:Value}{p:PD}(h:ofValue v=some p):VR c v p:=by
 unfold ofValue at h;split at h
 .rename_i cs;cases h1:tV cs.toList with
  |none=>simp[h1]at h
  |some ps=>
   simp[h1]at h;subst h;have⟨⟨b1,b2⟩,b3⟩:=aAH (c:=c) h1;have:=VR.agg (c:=c) cs.toList ps b1 b3 b2;exact bq
 .rename_i vs;split at h
  .rename_i h0;simp at h;subst h;have:vs=#[]:=yEf h0;subst this;exact VR.aP [] [] rfl yg
  .exact af
 .exact(RQ h).1
def FR(c:Cx)(a:Act)(fr:List PD):Prop:=aS c a.tmps.toList fr/\Gl c
theorem FR.mono{fl:Nat}{c c':Cx}(h:Nx fl c c'){a:Act}{fr:Ey}(hf:FR c a fr):FR c' a fr:=⟨aS.mono h hf.1,hf.2.mono h⟩
theorem IH(c:Cx):VR c undef (.aP []):=VR.aP [] [] rfl yg
theorem FR.tmp{c:Cx}{a:Act}{fr:Ey}(hf:FR c a fr)(t:Nat):VR c (a.tmps.getD t undef) (fr.getD t (.aP [])):=by
 obtain⟨⟨hl,h⟩,_⟩:=hf;rcases yCe t fr.length with hlt|hge
 .have h1:t<a.tmps.size:=by have:=hl;simp at this;omega
  have:=h t a.tmps[t] fr[t] (by simp[h1]) Dw;simpa [h1,hlt]using this
 .have h1:a.tmps.size<=t:=by have:=hl;simp at this;omega
  simp[Array.getElem?_eq_none h1,yBF hge];exact IH c
theorem dO{c:Cx}{a:Act}{fr:Ey}(hf:FR c a fr){x:Operand}{p:PD}(h:aX fr x=some p):VR c (a.eval x) p:=by
 cases x with
 |tmp t=>simp only[aX,yAb]at h;subst h;exact hf.tmp t
 |const v=>exact RR h
 |global g=>
  simp only[aX]at h;split at h
  .rename_i ds hg;simp only[yAb]at h;subst h;exact hf.2.1 g ds hg
  .exact af
 |func f=>simp only[aX,yAb]at h;subst h;exact VR.func f [] [] rfl yg
theorem rL{c:Cx}{a:Act}{fr:Ey}(hf:FR c a fr):∀ {xs:List Operand} {ps:Ey},jT fr xs=some ps->aS c (xs.map a.eval) ps
 | [],ps,h=>by simp[jT]at h;subst h;exact⟨rfl,yg⟩
 |x::xs,ps,h=>by
  unfold jT at h;cases h1:aX fr x with
  |none=>simp[h1]at h
  |some p=>
   cases h2:jT fr xs with
   |none=>simp[h1,h2]at h
   |some qs=>
    simp[h1,h2]at h;subst h;have a1:=dO hf h1;have⟨b1,b2⟩:=rL hf h2;refine⟨by simpa using b1,λi v d hv hd=>?_⟩;cases i with
    |zero=>simp at hv hd;subst hv;subst hd;exact a1
    |succ i=>exact b2 i v d (by simpa using hv) Dk
section inv
variable{c:Cx}{v:Value}
theorem VR.yL{b:Bool}(h:VR c v (.bool b)):v=.bool b:=Az
theorem VR.oW{k:IntKind}{n:Int}(h:VR c v (.int k n)):v=.int k n:=Az
theorem VR.rM{s:Ez}(h:VR c v (.str s)):v=.string ⟨s.toArray⟩:=Az
theorem VR.yU{ds:Ey}(h:VR c v (.agg ds)):∃cs:List Value,v=.agg cs.toArray/\aS c cs ds/\∀v∈cs,v.oneCell'=true:=by
 cases h with|agg cs _ h1 h2 h3=>exact⟨cs,rfl,⟨h1,h3⟩,h2⟩
theorem VR.aHL{ds:Ey}(h:VR c v (.aP ds)):∃cs:List Value,v=.tuple cs.toArray/\aS c cs ds:=by
 cases h with|aP cs _ h1 h2=>exact⟨cs,rfl,⟨h1,h2⟩⟩
theorem VR.HU{f:Nat}{ds:Ey}(h:VR c v (.func f ds)):∃cs:List Value,v=.func (.func f) #[] cs.toArray/\aS c cs ds:=by
 cases h with|func _ cs _ h1 h2=>exact⟨cs,rfl,⟨h1,h2⟩⟩
theorem VR.Z9{f:Nat}{ds:Ey}(h:VR c v (.jH f ds)):∃cs:List Value,v=.func (.func f) cs.toArray #[]/\aS c cs ds:=by
 cases h with|jH _ cs _ h1 h2=>exact⟨cs,rfl,⟨h1,h2⟩⟩
theorem VR.sI{id off:Nat}(h:VR c v (.ptr id off)):∃b,v=.pointer (some ⟨b,off,none⟩)/\c.D id/\(∃p,c.σ[id]?=some (.box p))/\c.ρ id=.pointer (some ⟨b,0,none⟩):=by
 cases h with|ptr _ _ b h1 h2 h3=>exact⟨b,rfl,h1,h2,h3⟩
theorem VR.CV{id off n size:Nat}(h:VR c v (.cV id off n size)):∃b cap,v=.slice (some ⟨b,off,none⟩) n cap/\c.D id/\(∃p,c.σ[id]?=some (.box p))/\c.ρ id=.pointer (some ⟨b,0,none⟩)/\n<=cap/\cap<=maxLen:=by
 cases h with|cV _ _ _ cap _ b h1 h2 h3 h4 h5=>exact⟨b,cap,rfl,h1,h2,h3,h4,h5⟩
theorem VR.AU{id ver off n size:Nat}(h:VR c v (.aU id ver off n size)):∃b cap,v=.slice (some ⟨b,off,none⟩) n cap/\AX c id ver (λsz r=>sz=size/\∃C,r=.slice (some ⟨b,0,none⟩) 0 C/\off+cap*size=C*size)/\n<=cap/\cap<=maxLen:=by
 cases h with|aU _ _ _ _ cap _ b h1 h2 h3=>exact⟨b,cap,rfl,h1,h2,h3⟩
theorem VR.FA{id ver off:Nat}(h:VR c v (.dH id ver off)):∃b,v=.pointer (some ⟨b,off,none⟩)/\AX c id ver (λ_ r=>∃C,r=.slice (some ⟨b,0,none⟩) 0 C):=by
 cases h with|dH _ _ _ b h1=>exact⟨b,rfl,h1⟩
theorem VR.aHd{id:Nat}(h:VR c v (.eO id)):∃b,v=.map (some b)/\c.D id/\kL c.σ[id]?/\c.ρ id=.map (some b):=by
 cases h with|eO _ b h1 h2 h3=>exact⟨b,rfl,h1,h2,h3⟩
theorem VR.C5(h:VR c v .fV):v=.pointer none:=Az
theorem VR.MU(h:VR c v .iB):v=.nilFunc:=Az
theorem VR.FG{ds:Ey}{off:Nat}(h:VR c v (.eB ds off)):∃(ad:Addr) (fl:List Value),v=.pointer (some (ad.add off))/\aS c fl ds/\(∀v∈fl,v.oneCell'=true) /\
  ∀(j:Nat) (v:Value),fl[j]?=some v->c.w.cell? (ad.add j)=some v/\c.av (ad.add j):=by
 cases h with|eB ad fl _ _ h1 h2 h3 h4=>exact⟨ad,fl,rfl,⟨h1,h4⟩,h2,h3⟩
theorem VR.nS{size:Nat}{xs:Ey}{tok:Tok}(h:VR c v (.slice size xs tok)):∃(A:Option Addr) (cap:Nat) (fl:List Value),v=.slice A xs.length cap/\xs.length<=cap/\cap<=maxLen /\
  (∀x∈xs,x.cells.length=size)/\fl.length=xs.length*size/\(∀v∈fl,v.oneCell'=true) /\
  (∀(j:Nat) (v:Value),fl[j]?=some v->∃ad,A=some ad/\c.w.cell? (ad.add j)=some v/\c.av (ad.add j)) /\
  (∀(j:Nat) (v:Value) (d:PD),fl[j]?=some v->(xs.flatMap PD.cells)[j]?=some d->VR c v d)/\qP c size xs.length cap (.slice A xs.length cap) tok:=by
 cases h with|slice A n cap _ _ _ fl h1 h2 h3 h4 h5 h6 h7 h8 h9=>subst h1;exact⟨A,cap,fl,rfl,h2,h3,h4,h5,h6,h7,h8,h9⟩
end inv
theorem VR.cells{c:Cx}{v:Value}{p:PD}(h:VR c v p):aS c v.cells.toList p.cells:=by
 cases h with
 |agg cs ds h1 h2 h3=>exact⟨by simpa [Value.cells,PD.cells]using h1,by simpa [Value.cells,PD.cells]using h3⟩
 |fF v h=>
  have e:v.cells=#[v]:=by cases v<;>first|rfl|simp[RX]at h
  rw[e];refine⟨rfl,λi v' d hv hd=>?_⟩;cases i with
  |zero=>
   simp[PD.cells]at hv hd;subst hv;subst hd;exact .fF v h
  |succ i=>simp at hv
 |_=>
  refine⟨by simp[Value.cells,PD.cells],λi v' d hv hd=>?_⟩;cases i with
  |zero=>
   simp[Value.cells,PD.cells]at hv hd;subst hv;subst hd
   constructor<;>assumption
  |succ i=>simp[Value.cells]at hv
theorem VR.plain{c:Cx}{v:Value}{p:PD}(h:VR c v p):p.plain=v.oneCell':=by
 cases h with
 |fF v h=>cases v<;>first|rfl|simp[RX]at h
 |_=>rfl
theorem aS.wW{c:Cx}{cs:Fa}{ds:Ey}(h:aS c cs ds)(hp:ds.all PD.plain=true):∀v∈cs,v.oneCell'=true:=by
 intro v hv;obtain⟨i,hi⟩:=yDd hv;have hlt:i<ds.length:=by rw[<-h.1];exact(yA.1 hi).1
 have h1:=h.2 i v ds[i] hi Dw;rw[<-h1.plain];exact yAn.1 hp _ (yAm hlt)
theorem aS.take_drop{c:Cx}{cs:Fa}{ds:Ey}(h:aS c cs ds)(off n:Nat):aS c ((cs.drop off).take n) ((ds.drop off).take n):=by
 refine⟨by simp[h.1],λi v d hv hd=>?_⟩;rw[yAv]at hv hd;split at hv
 .rename_i hlt;rw[yAJ hlt]at hd;rw[yBl]at hv hd;exact h.2 _ v d hv hd
 .simp at hv
theorem aS.get{c:Cx}{cs:Fa}{ds:Ey}(h:aS c cs ds){i:Nat}{d:PD}(hd:ds[i]?=some d):∃v,cs[i]?=some v/\VR c v d:=by
 have hlt:i<cs.length:=by rw[h.1];exact(yA.1 hd).1
 exact⟨cs[i],Dw,h.2 i cs[i] d Dw hd⟩
theorem MK{P:Program}{t:TypeId}{n:Nat}(h:bT P t=some n):∃i,P.info? t=some i/\i.size=n:=by
 unfold bT at h;split at h<;>simp at h;exact⟨_,‹_›,h⟩
theorem mI{P:Program}{w:World}{t:TypeId}{n:Nat}(h:bT P t=some n):(sizeOf t).run P w=.ok n w:=by
 obtain⟨i,h1,h2⟩:=MK h;simp[sizeOf,typeInfo,h1,h2]
theorem MO{P:Program}{w:World}{t:TypeId}{b:Bool}(h:fB P t=some b):(isAgg t).run P w=.ok b w:=by
 unfold fB at h;split at h<;>simp at h<;>subst h
 .rename_i hu;simp[isAgg,yAM hu]
 .rename_i hu;simp[isAgg,yAM hu]
 .rename_i d h1 h2 hu;simp only[isAgg,yBa,yAM hu,yBj];rfl
theorem FI{P:Program}{c:Cx}{cs:Fa}{ds:Ey}(h:aS c cs ds)(h1:∀v∈cs,v.oneCell'=true){t:TypeId}{off:Nat}{p:PD}(hp:mT P t ds off=some p)(w:World) :
  ∃v,(part t cs.toArray off).run P w=.ok v w/\VR c v p:=by
 unfold mT at hp;split at hp
 .rename_i n ha hs;split at hp
  .simp at hp;subst hp;refine⟨.agg ((cs.drop off).take n).toArray,?_,?_⟩
   .simp[part,MO ha,mI hs,List.extract_toArray,List.extract_eq_take_drop]
   .have h2:=h.take_drop off n;exact .agg _ _ h2.1 (λv hv=>h1 v (yBg (yAy hv))) h2.2
  .simp at hp
 .rename_i n ha hs;obtain⟨v,hv,hr⟩:=h.get hp;exact⟨v,by simp[part,MO ha,hv],hr⟩
 .simp at hp
end
section
theorem aAF(l:List UInt8):(ByteArray.mk l.toArray).toList=l:=by rw[ByteArray.toList_eq]
theorem aAE{op:BinOp}{k:IntKind}{x y z:Int}(h:AL op k x y=some z)(P:Program)(w:World):(Op.intBits op k x y).run P w=.ok (.int k z) w:=by
 cases op<;>simp only[AL,yAb,reduceCtorEq]at h<;>subst h<;>rfl
theorem aHP{op:BinOp}{k:IntKind}{x y:Int}{p:PD}(h:gI op k x y=some p)(hs:op≠.shl/\op≠.shr)(c:Cx)(P:Program)(t:TypeId)(w:World) :
  ∃v,(binOp op t (.int k x) (.int k y)).run P w=.ok v w/\VR c v p:=by
 cases op<;>simp only[gI]at h<;>first
  |(simp at hs;done)
  |(simp at h;subst h;refine⟨_,?_,VR.int _ _⟩;simp[binOp,Op.intArith];done)
  |(simp at h;subst h;refine⟨_,?_,VR.bool _⟩;simp[binOp,Op.intCmp];done)
  |(split at h
    .exact af
    .rename_i h0;simp at h;subst h;refine⟨_,?_,VR.int _ _⟩;simp[binOp,Op.intDiv,h0])
  |(split at h
    .rename_i z hz;simp at h;subst h;refine⟨_,?_,VR.int _ _⟩;simp only[binOp,ne_eq,yBL,yAN];exact aAE hz P w
    .simp at h)
theorem aAB{op:BinOp}{k k':IntKind}{x y:Int}{p:PD}(h:HR op k x y=some p)(hs:op=.shl\/op=.shr)(c:Cx)(P:Program)(t:TypeId)(w:World) :
  ∃v,(binOp op t (.int k x) (.int k' y)).run P w=.ok v w/\VR c v p:=by
 unfold HR at h;split at h
 .exact af
 .rename_i h0;rcases hs with rfl|rfl<;>simp at h<;>subst h<;>refine⟨_,?_,VR.int _ _⟩<;>simp[binOp,Op.shift,h0]
theorem aHR(a b:List UInt8):(ByteArray.mk a.toArray)++(ByteArray.mk b.toArray)=ByteArray.mk (a++b).toArray:=by
 apply ByteArray.ext;simp
theorem MQ(a:List UInt8):(ByteArray.mk a.toArray).size=a.length:=Cr
theorem aHQ{op:BinOp}{x y:Ez}{p:PD}(h:HQ op x y=some p)(c:Cx)(P:Program)(t:TypeId)(w:World) :
  ∃v,(binOp op t (.string ⟨x.toArray⟩) (.string ⟨y.toArray⟩)).run P w=.ok v w/\VR c v p:=by
 cases op<;>simp only[HQ]at h<;>first
  |(simp at h;done)
  |(split at h
    .rename_i hl;simp at h;subst h;refine⟨_,?_,VR.str _⟩;have:¬((((ByteArray.mk x.toArray).size+(ByteArray.mk y.toArray).size:Nat):Int) > IntKind.i64.max):=by
      rw[MQ,MQ];simp only[maxLen]at hl;simp[IntKind.max,IntKind.signed,IntKind.bits];omega
     simp only[binOp,Op.stringOp,yAI this,yBk,aHR]
    .simp at h)
  |(simp at h;subst h;refine⟨_,?_,VR.bool _⟩;simp[binOp,Op.stringOp])
section eq
variable{P:Program}{c:Cx}
theorem RW{eq:TypeId->PD->PD->Option Bool}{d:Nat}
  (ih:∀t x y b vx vy (w:World),eq t x y=some b->VR c vx x->VR c vy y->(Op.equalIn d t vx vy).run P w=.ok b w)
  {xs ys:Fa} {px py:Ey} (hx:aS c xs px) (hx1:∀v∈xs,v.oneCell'=true) (hy:aS c ys py) (hy1:∀v∈ys,v.oneCell'=true) (w:World) :
  ∀(fs:List Field) (b:Bool),x9 eq P px py fs=some b->(Op.eqFields d xs.toArray ys.toArray fs).run P w=.ok b w
 | [],b,h=>by simp[x9]at h;subst h;rfl
 |f::fs,b,h=>by
  unfold x9 at h;unfold Op.eqFields;split at h
  .rename_i hn;rw[yAI Cj];exact RW ih hx hx1 hy hy1 w fs b h
  .rename_i hn;rw[yAJ Cj];split at h
   .rename_i a b' ha hb;obtain⟨va,ra,qa⟩:=FI hx hx1 ha w;obtain⟨vb,rb,qb⟩:=FI hy hy1 hb w;split at h
    .rename_i he;have:=ih _ _ _ _ va vb w he qa qb;simp only[yBa,ra,rb,this,yBj];simpa using RW ih hx hx1 hy hy1 w fs b h
    .rename_i he;simp at h;subst h;have:=ih _ _ _ _ va vb w he qa qb;simp[ra,rb,this]
    .exact af
   .exact af
theorem aAG{e:TypeId}{eq:PD->PD->Option Bool}{d n:Nat}(hn:bT P e=some n)
  (ih:∀x y b vx vy (w:World),eq x y=some b->VR c vx x->VR c vy y->(Op.equalIn d e vx vy).run P w=.ok b w)
  {xs ys:Fa} {px py:Ey} (hx:aS c xs px) (hx1:∀v∈xs,v.oneCell'=true) (hy:aS c ys py) (hy1:∀v∈ys,v.oneCell'=true) (w:World) :
  ∀(m i:Nat) (b:Bool),AG eq P e n px py i m=some b ->
   (forIn (m:=Sem) (List.range' i m) (none,PUnit.unit) (fun(i:Nat) (_:Option Bool×PUnit)=>do
    if !(<-Op.equalIn d e (<-part e xs.toArray (i*n)) (<-part e ys.toArray (i*n)))then
     pure (ForInStep.done (some false,PUnit.unit))
    else do
     pure PUnit.unit
     pure (ForInStep.yield (none,PUnit.unit)))).run P w=.ok (if b then none else some false,PUnit.unit) w
 |0,i,b,h=>by simp[AG]at h;subst h;rfl
 |m+1,i,b,h=>by
  unfold AG at h;split at h
  .rename_i a b' ha hb;obtain⟨va,ra,qa⟩:=FI hx hx1 ha w;obtain⟨vb,rb,qb⟩:=FI hy hy1 hb w;split at h
   .rename_i he;have:=ih _ _ _ va vb w he qa qb;rw[yDo];have r:=aAG hn ih hx hx1 hy hy1 w m (i+1) b h;simp only[List.forIn_cons,yBa,ra,rb,this,yBj,yBR,yAx,yAN,yBk];exact r
   .rename_i he;simp at h;subst h;have:=ih _ _ _ va vb w he qa qb;rw[yDo];simp[ra,rb,this]
   .exact af
  .exact af
theorem MT:∀(d k:Nat) (t:TypeId) (x y:PD) (b:Bool) (vx vy:Value) (w:World),kJ P d t x y=some b->VR c vx x->VR c vy y ->
  (Op.equalIn (d+k) t vx vy).run P w=.ok b w
 |0,_,_,_,_,_,_,_,_,h,_,_=>by simp[kJ]at h
 |d+1,k,t,x,y,b,vx,vy,w,h,hx,hy=>by
  rw[show d+1+k=(d+k)+1 by omega];unfold kJ at h;split at h
  .rename_i hu;split at h<;>simp at h
   subst h;rw[hx.yL,hy.yL];exact run_equalIn_bool' w _ t _ _ hu
  .rename_i kk hu;split at h<;>simp at h
   obtain⟨rfl,rfl⟩:=h;rw[hx.oW,hy.oW];exact run_equalIn_int w _ t _ kk _ _ hu
  .rename_i hu;split at h<;>simp at h
   subst h;rw[hx.rM,hy.rM,run_equalIn_string w _ t _ _ hu,aAF,aAF]
  .rename_i e hu;split at h<;>simp at h<;>subst h
   .rw[hx.C5,hy.C5];simp[Op.equalIn,yAM hu]
   .obtain⟨b,e2,_⟩:=hy.sI;rw[hx.C5,e2];simp[Op.equalIn,yAM hu]
   .obtain⟨ad,fl,e2,_⟩:=hy.FG;rw[hx.C5,e2];simp[Op.equalIn,yAM hu]
   .obtain⟨b,e2,_⟩:=hx.sI;rw[hy.C5,e2];simp[Op.equalIn,yAM hu]
   .obtain⟨ad,fl,e2,_⟩:=hx.FG;rw[hy.C5,e2];simp[Op.equalIn,yAM hu]
  .rename_i hu;split at h<;>simp at h<;>subst h
   .rw[hx.MU,hy.MU];simp[Op.equalIn,yAM hu]
   .obtain⟨_,e2,_⟩:=hy.HU;rw[hx.MU,e2];simp[Op.equalIn,yAM hu]
   .obtain⟨_,e2,_⟩:=hx.HU;rw[hy.MU,e2];simp[Op.equalIn,yAM hu]
  .rename_i fs hu;split at h
   .rename_i px py;split at h
    .exact af
    .rename_i hst;obtain⟨xs,rfl,hxs,hx1⟩:=hx.yU;obtain⟨ys,rfl,hys,hy1⟩:=hy.yU;have hfo:P.fieldsOf t=fs:=by simp[Program.fieldsOf,hu]
     rw[run_equalIn_struct w _ t _ _ (by rw[hfo];exact hu) (by simpa using hst),hfo];exact RW (λt x y b vx vy w h hx hy=>MT d k t x y b vx vy w h hx hy) hxs hx1 hys hy1 w fs.toList b h
   .exact af
  .rename_i len e hu;split at h
   .rename_i px py;split at h
    .rename_i n hn;obtain⟨xs,rfl,hxs,hx1⟩:=hx.yU;obtain⟨ys,rfl,hys,hy1⟩:=hy.yU;have r:=aAG (P:=P) (d:=d+k) hn (λx y b vx vy w h hx hy=>MT d k e x y b vx vy w h hx hy) hxs hx1 hys hy1 w len 0 b h;simp only[Op.equalIn,yBa,yAM hu,mI hn,yBj];rw[Std.Legacy.Range.forIn_eq_forIn_range'];simp only[Std.Legacy.Range.size];rw[show(len-0+1-1)/1=len by simp];refine Eq.trans (yAL (λz=>Result.andThen z _) r) ?_;cases b<;>rfl
    .exact af
   .exact af
  .exact af
end eq
end
section
section
variable{P:Program}{c:Cx}
theorem aAy{d:Nat}{t:TypeId}{x y:PD}{b:Bool}(h:kJ P d t x y=some b):(∀v,x≠.fF v)/\∀v,y≠.fF v:=by
 cases d with
 |zero=>cases h
 |succ d=>
  unfold kJ at h
  constructor
  .rintro v rfl
   split at h<;>cases h
  .rintro v rfl
   split at h<;>(first|(cases h;done)|(split at h<;>first|(cases h;done)|(rename_i h' ;cases h';done)|contradiction))
theorem aAz{t:TypeId}{x y:PD}{b:Bool}(h:oL P t x y=some b):(∀v,x≠.fF v)/\∀v,y≠.fF v:=by
 unfold oL at h;split at h
 .exact⟨λv e=>zu,λv e=>zu⟩
 .exact aAy h
theorem aAA{t:TypeId}{x y:PD}{b:Bool}(h:oL P t x y=some b){vx vy:Value}(hx:VR c vx x)(hy:VR c vy y)(w:World)(op:BinOp)(ox oy:Operand) :
  (Op.equal t vx vy).run P w=.ok b w/\(eqGuard op t ox oy vx vy).run P w=.ok () w:=by
 unfold oL at h;split at h
 .rename_i px py;split at h
  .exact af
  .rename_i hg;refine⟨MT 12 9988 t _ _ b vx vy w h hx hy,?_⟩;obtain⟨xs,rfl,_⟩:=hx.yU;obtain⟨ys,rfl,_⟩:=hy.yU;exact run_eqGuard_agg w op t ox oy _ _ (by simpa using hg)
 .rename_i hne;refine⟨MT 12 9988 t _ _ b vx vy w h hx hy,?_⟩;obtain⟨q1,q2⟩:=aAy h;cases hx<;>cases hy<;>first
   |exact(hne _ _ rfl rfl).elim
   |exact absurd rfl (q1 _)
   |exact absurd rfl (q2 _)
   |(cases op<;>rfl)
theorem aHC{op:BinOp}{t:TypeId}{x y p:PD}(h:dF P op t x y=some p){vx vy:Value}(hx:VR c vx x)(hy:VR c vy y)(w:World)(ox oy:Operand) :
  ∃v,(do eqGuard op t ox oy vx vy;binOp op t vx vy:Sem Value).run P w=.ok v w/\VR c v p:=by
 unfold dF at h;split at h
 .rename_i k a k' b;have e1:=hx.oW;have e2:=hy.oW;subst e1;subst e2;have hg:(eqGuard op t ox oy (.int k a) (.int k' b)).run P w=.ok () w:=by cases op<;>rfl
  split at h
  .obtain⟨v,r,q⟩:=aAB (k':=k') h (.inl rfl) c P t w;exact oh
  .obtain⟨v,r,q⟩:=aAB (k':=k') h (.inr rfl) c P t w;exact oh
  .rename_i n1 n2;split at h
   .rename_i hk;subst hk;obtain⟨v,r,q⟩:=aHP h ⟨by rintro rfl;exact n1 rfl,by rintro rfl;exact n2 rfl⟩ c P t w;exact oh
   .exact af
 .rename_i a b;have e1:=hx.rM;have e2:=hy.rM;subst e1;subst e2;have hg:(eqGuard op t ox oy (.string ⟨a.toArray⟩) (.string ⟨b.toArray⟩)).run P w=.ok () w:=by cases op<;>rfl
  obtain⟨v,r,q⟩:=aHQ h c P t w;exact oh
 .rename_i n1 n2;split at h
  .split at h
   .rename_i b hb;simp at h;subst h;obtain⟨r1,r2⟩:=aAA hb hx hy w .eql ox oy;refine⟨.bool b,?_,.bool b⟩;simp only[yBa,r2,yBj];have:(binOp .eql t vx vy)=(do pure (.bool (<-Op.equal t vx vy)):Sem Value):=by
     exact gq
    rw[this];simp[r1]
   .exact af
  .split at h
   .rename_i b hb;simp at h;subst h;obtain⟨r1,r2⟩:=aAA hb hx hy w .neq ox oy;refine⟨.bool (!b),?_,.bool _⟩;simp only[yBa,r2,yBj];have:(binOp .neq t vx vy)=(do pure (.bool (!(<-Op.equal t vx vy))):Sem Value):=by
     exact gq
    rw[this];simp[r1]
   .exact af
  .exact af
theorem aAC{v:Value}{a:PD}{b:Bool}(hv:VR c v a)(h:fU a=some b):∃A n cap,v=.slice A n cap/\b=A.isNone:=by
 unfold fU at h;split at h
 .rename_i n xs tok;obtain⟨A,cap,fl,rfl,h1,h2,h3,h4,h5,h6,h7,h8⟩:=hv.nS;refine⟨A,xs.length,cap,rfl,?_⟩;split at h
  .rename_i hc;simp only[yAb]at h;subst h;have:0<fl.length:=by rw[h4];exact yCX (yCY hc.1) (yCY hc.2)
   obtain⟨ad,rfl,_⟩:=h6 0 fl[0] (by simp[this]);rfl
  .split at h
   .simp only[yAb]at h;subst h;obtain⟨e,_⟩:=h8;exact qk
   .simp only[yAb]at h;subst h;obtain⟨k,m,e⟩:=h8;exact qk
   .simp only[yAb]at h;subst h;obtain⟨a',k,m,e⟩:=h8;exact qk
   .cases h
 .obtain⟨b,cap,rfl,_⟩:=hv.CV;simp only[yAb]at h;subst h;exact⟨_,_,_,rfl,rfl⟩
 .obtain⟨b,cap,rfl,_⟩:=hv.AU;simp only[yAb]at h;subst h;exact⟨_,_,_,rfl,rfl⟩
 .cases h
theorem aAD{t e:TypeId}(hu:P.underlying t=some (.slice e))(A:Option Addr)(n cap:Nat)(w:World):(Op.equal t (.slice A n cap) (.slice none 0 0)).run P w=.ok A.isNone w:=by
 show(Op.equalIn (9999+1) t (.slice A n cap) (.slice none 0 0)).run P w=_
 unfold Op.equalIn;cases A<;>simp[yAM hu]
theorem aHD{op:BinOp}{t:TypeId}{a p:PD}{y:Operand}(h:AJ P op t a y=some p){ac:Act}{vx:Value}(hx:VR c vx a)(w:World)(ox:Operand) :
  ∃v,(do eqGuard op t ox y vx (ac.eval y);binOp op t vx (ac.eval y):Sem Value).run P w=.ok v w/\VR c v p:=by
 unfold AJ at h;split at h
 .split at h
  .rename_i e hu;split at h
   .rename_i b hb;simp only[yAb]at h;subst h;obtain⟨A,n,cap,rfl,rfl⟩:=aAC hx hb;refine⟨.bool A.isNone,?_,.bool _⟩;have hg:(eqGuard .eql t ox (.const (.slice none 0 0)) (.slice A n cap) (.slice none 0 0)).run P w=.ok () w:=rfl;have hb:(binOp .eql t (.slice A n cap) (.slice none 0 0))=(do pure (.bool (<-Op.equal t (.slice A n cap) (.slice none 0 0))):Sem Value):=rfl;simp only[Act.eval,yBa,hg,hb,yBj,aAD hu,yBk]
   .rename_i b hb;simp only[yAb]at h;subst h;obtain⟨A,n,cap,rfl,rfl⟩:=aAC hx hb;refine⟨.bool (!A.isNone),?_,.bool _⟩;have hg:(eqGuard .neq t ox (.const (.slice none 0 0)) (.slice A n cap) (.slice none 0 0)).run P w=.ok () w:=rfl;have hb:(binOp .neq t (.slice A n cap) (.slice none 0 0))=(do pure (.bool (!(<-Op.equal t (.slice A n cap) (.slice none 0 0)))):Sem Value):=rfl;simp only[Act.eval,yBa,hg,hb,yBj,aAD hu,yBk]
   .cases h
  .cases h
 .cases h
theorem aHE{op:UnOp}{x p:PD}(h:EJ op x=some p){vx:Value}(hx:VR c vx x)(w:World):∃v,(Op.unary op vx).run P w=.ok v w/\VR c v p:=by
 unfold EJ at h;split at h
 .simp only[yAb]at h;subst h;rw[hx.oW];exact⟨_,rfl,.int _ _⟩
 .rw[hx.oW];split at h
  .rename_i z hz;simp at h;subst h;exact⟨_,aAE hz P w,.int _ _⟩
  .exact af
 .simp at h;subst h;rw[hx.yL];exact⟨_,rfl,.bool _⟩
 .exact af
theorem aHF{s d:TypeId}{x p:PD}(h:HO P s d x=some p){vx:Value}(hx:VR c vx x)(w:World):∃v,(convert s d vx).run P w=.ok v w/\VR c v p:=by
 unfold HO at h;split at h
 .rename_i hs hd;simp at h;subst h;rw[hx.oW];exact⟨_,by simp[convert,yAM hs,yAM hd,Conv.intToInt],.int _ _⟩
 .rename_i hs hd;simp at h;subst h;rw[hx.rM];exact⟨_,by simp[convert,yAM hs,yAM hd],.str _⟩
 .exact af
theorem CY{x:PD}{i:Nat}(h:fK (some x)=some i){v:Value}(hx:VR c v x):∃k z,v=.int k z/\0<=z/\z.toNat=i:=by
 unfold fK at h;split at h
 .rename_i k z e;simp at e;subst e;split at h
  .simp at h;exact⟨k,z,hx.oW,‹_›,h⟩
  .exact af
 .exact af
theorem CI(a:Addr)(i j:Nat):(a.add i).add j=a.add (i+j):=by
 unfold Addr.add
 by_cases hi:i=0<;>by_cases hj:j=0<;>simp[hi,hj,yBX]
theorem RV{s:TypeId}{fs:Array Field}{fd:Field}{f n:Nat}(hu:P.underlying s=some (.struct fs))(hf:fs[f]?=some fd)(hn:bT P fd.type=some n)(h0:n≠0)(a:Addr)(w:World) :
  (Instr.fieldAt s (.pointer (some a)) f).run P w=.ok (.pointer (some (a.add fd.offset))) w:=by
 simp[Instr.fieldAt,yAM hu,hf,Instr.sureAddr,fieldPlace,mI hn,h0]
theorem aHH{s:TypeId}{x p:PD}{f:Nat}(h:AH P s x f=some p){vx:Value}(hx:VR c vx x)(w:World):∃v,(Instr.fieldAt s vx f).run P w=.ok v w/\VR c v p:=by
 unfold AH at h;split at h
 .rename_i fs hu;split at h
  .rename_i fd hf;split at h
   .rename_i n hn;split at h
    .exact af
    .rename_i h0;split at h
     .rename_i id off;simp at h;subst h;obtain⟨b,rfl,h1,h2,h3⟩:=hx.sI;refine⟨_,RV hu hf hn h0 _ w,?_⟩;have:(⟨b,off,none⟩:Addr).add fd.offset=⟨b,off+fd.offset,none⟩:=zg;rw[this];exact .ptr _ _ b h1 h2 h3
     .rename_i cs off;simp at h;subst h;obtain⟨ad,fl,rfl,h1,h2,h3⟩:=hx.FG;refine⟨_,RV hu hf hn h0 _ w,?_⟩;rw[CI];exact .eB ad fl cs _ h1.1 h2 h3 h1.2
     .rename_i id ver off;simp at h;subst h;obtain⟨b,rfl,h1⟩:=hx.FA;refine⟨_,RV hu hf hn h0 _ w,?_⟩;have:(⟨b,off,none⟩:Addr).add fd.offset=⟨b,off+fd.offset,none⟩:=zg;rw[this];exact .dH _ _ _ b h1
     .exact af
   .exact af
  .exact af
 .exact af
theorem aHI{t:TypeId}{x p:PD}{f:Nat}(h:LV P t x f=some p){vx:Value}(hx:VR c vx x)(w:World):∃v,(Instr.field t vx f).run P w=.ok v w/\VR c v p:=by
 unfold LV at h;split at h
 .rename_i fs ds hu;split at h
  .rename_i fd hf;obtain⟨cs,rfl,h1,h2⟩:=hx.yU;obtain⟨v,r,q⟩:=FI h1 h2 h w;exact⟨v,by simp[Instr.field,yAM hu,hf,asAgg,r],q⟩
  .exact af
 .exact af
theorem RH(size:Nat):∀(xs:List PD),(∀x∈xs,x.cells.length=size)->∀(i:Nat) (p:PD),xs[i]?=some p->∀j,j<size->(xs.flatMap PD.cells)[i*size+j]?=p.cells[j]?
 | [],_,i,p,h,_,_=>Am
 |x::xs,hx,0,p,h,j,hj=>by
  simp at h;subst h;have:=hx x yg;simp[yBs,yDb,this,hj]
 |x::xs,hx,i+1,p,h,j,hj=>by
  have hl:=hx x yg;have r:=RH size xs (λy hy=>hx y Aw) i p zx j hj;rw[yBs,yBz (by rw[hl,yBu];omega),hl];rw[show(i+1)*size+j-size=i*size+j by rw[yBu];omega];exact r
theorem aHJ{t:TypeId}{x i p:PD}(h:nP P t x i=some p){vx vi:Value}(hx:VR c vx x)(hi:VR c vi i)(w:World):∃v,(Instr.indexAt t vx vi).run P w=.ok v w/\VR c v p:=by
 unfold nP at h;split at h
 .rename_i m len e hm hu;obtain⟨k,z,rfl,h0,rfl⟩:=CY hm hi;split at h
  .rename_i n hn;split at h
   .rename_i hlt;split at h
    .rename_i id off;simp at h;subst h;obtain⟨b,rfl,h1,h2,h3⟩:=hx.sI;refine⟨.pointer (some ⟨b,off+z.toNat*n,none⟩),?_,.ptr _ _ b h1 h2 h3⟩;exact ez
    .rename_i cs off;simp at h;subst h;obtain⟨ad,fl,rfl,h1,h2,h3⟩:=hx.FG;have hz:z<(len:Int):=ye;refine⟨.pointer (some (ad.add (off+z.toNat*n))),?_,.eB ad fl cs _ h1.1 h2 h3 h1.2⟩;simp[Instr.indexAt,asIntOf,yAM hu,Instr.sureAddr,h0,hz,mI hn,CI]
    .rename_i id ver off;simp at h;subst h;obtain⟨b,rfl,h1⟩:=hx.FA;refine⟨.pointer (some ⟨b,off+z.toNat*n,none⟩),?_,.dH _ _ _ b h1⟩;exact ez
    .exact af
   .exact af
  .exact af
 .rename_i m e hm hu;obtain⟨k,z,rfl,h0,rfl⟩:=CY hm hi;split at h
  .rename_i size xs tok n hn;split at h
   .rename_i hsz;obtain⟨hsz,hn0⟩:=hsz;split at h
    .rename_i q hq;simp at h;subst h;have hsz:n=size:=hsz.resolve_left (λe=>by rw[yAf e]at hq;simp at hq);subst hsz;obtain⟨A,cap,fl,rfl,h1,h2,h3,h4,h5,h6,h7,h8⟩:=hx.nS;have hlt:z.toNat<xs.length:=(yA.1 hq).1;have hz:z<(xs.length:Int):=ye;have hql:=h3 q (yAE hq);have hin:z.toNat*n<fl.length:=by
      rw[h4];exact Nat.mul_lt_mul_of_pos_right hlt hn0
     obtain⟨ad,rfl,_,_⟩:=h6 (z.toNat*n) fl[z.toNat*n] (by simp[hin]);refine⟨.pointer (some ((ad.add (z.toNat*n)).add 0)),?_,?_⟩
     .simp[Instr.indexAt,asIntOf,yAM hu,h0,hz,mI hn,Addr.add]
     .have hle:z.toNat*n+n<=fl.length:=by
       rw[h4,<-yBQ];exact yBK _ hlt
      refine .eB (ad.add (z.toNat*n)) ((fl.drop (z.toNat*n)).take n) q.cells 0 (by simp[hql];omega) (λv hv=>h5 v (yBg (yAy hv))) ?_ ?_
      .intro j v hv;rw[yAv]at hv;split at hv
       .rw[yBl]at hv;obtain⟨IA,e',h9,h10⟩:=h6 _ v hv;cases e';rw[CI];exact⟨h9,h10⟩
       .simp at hv
      .intro j v d hv hd;rw[yAv]at hv;split at hv
       .rename_i hj;rw[yBl]at hv;exact h7 _ v d hv (by rw[RH n xs h3 _ _ hq j hj];exact hd)
       .simp at hv
    .exact af
   .exact af
  .rename_i id off m' size n hn;split at h
   .rename_i hc;obtain⟨rfl,hlt⟩:=hc;simp at h;subst h;obtain⟨b,cap,rfl,h1,h2,h3,_,_⟩:=hx.CV;refine⟨.pointer (some ⟨b,off+z.toNat*n,none⟩),?_,.ptr _ _ b h1 h2 h3⟩;exact fy
   .exact af
  .rename_i id ver off m' size n hn;split at h
   .rename_i hc;obtain⟨rfl,hlt⟩:=hc;simp at h;subst h;obtain⟨b,cap,rfl,h1,_,_⟩:=hx.AU;refine⟨.pointer (some ⟨b,off+z.toNat*n,none⟩),?_,.dH _ _ _ b ⟨h1.1,λe sz v' cs hs=>⟨(h1.2 e sz v' cs hs).1,λhv=>by
     obtain⟨_,C,hr,_⟩:=(h1.2 e sz v' cs hs).2 hv;exact⟨C,hr⟩⟩⟩⟩
    exact fy
   .exact af
  .exact af
 .exact af
end
end
section
theorem aHO(s:List UInt8)(l h:Nat):(ByteArray.mk s.toArray).extract l h=⟨((s.drop l).take (h-l)).toArray⟩:=by
 apply ByteArray.ext;simp[ByteArray.data_extract,List.extract_toArray,List.extract_eq_take_drop]
theorem CZ{size:Nat}:∀(xs:List PD),(∀x∈xs,x.cells.length=size)->(xs.flatMap PD.cells).length=xs.length*size
 | [],_=>yg
 |x::xs,h=>by
  rw[yBs,yAa,h x yg,CZ xs (λy hy=>h y Aw),yAS,yBu];omega
theorem aAu{size:Nat}:∀(xs:List PD) (l:Nat),(∀x∈xs,x.cells.length=size)->(xs.drop l).flatMap PD.cells=(xs.flatMap PD.cells).drop (l*size)
 |xs,0,_=>yg
 | [],l+1,_=>yg
 |x::xs,l+1,h=>by
  have hx:=h x yg;have e1:x.cells.drop ((l+1)*size)=[]:=yAs (by rw[hx,yBu];omega);have e2:(l+1)*size-size=l*size:=by rw[yBu];omega
  rw[List.drop_succ_cons,aAu xs l (λy hy=>h y Aw),yBs,List.drop_append,hx,e1,e2,yAO]
theorem aAv{size:Nat}:∀(xs:List PD) (k:Nat),(∀x∈xs,x.cells.length=size)->(xs.take k).flatMap PD.cells=(xs.flatMap PD.cells).take (k*size)
 |xs,0,_=>yg
 | [],k+1,_=>yg
 |x::xs,k+1,h=>by
  have hx:=h x yg;have e1:x.cells.take ((k+1)*size)=x.cells:=yAz (by rw[hx,yBu];omega);have e2:(k+1)*size-size=k*size:=by rw[yBu];omega
  rw[yDF,yBs,aAv xs k (λy hy=>h y Aw),yBs,List.take_append,hx,e1,e2]
section
variable{P:Program}{c:Cx}
theorem aHK{t:TypeId}{x i p:PD}(h:yJ P t x i=some p){vx vi:Value}(hx:VR c vx x)(hi:VR c vi i)(w:World):∃v,(Instr.index t vx vi).run P w=.ok v w/\VR c v p:=by
 unfold yJ at h;split at h
 .rename_i m len e ds hm hu;obtain⟨k,z,rfl,h0,rfl⟩:=CY hm hi;split at h
  .rename_i n hn;split at h
   .rename_i hlt;obtain⟨cs,rfl,h1,h2⟩:=hx.yU;obtain⟨v,r,q⟩:=FI h1 h2 h w;have hz:z<(len:Int):=ye;exact⟨v,by simp[Instr.index,asIntOf,yAM hu,h0,hz,mI hn,r],q⟩
   .exact af
  .exact af
 .rename_i m s hm hu;obtain⟨k,z,rfl,h0,rfl⟩:=CY hm hi;split at h
  .rename_i b hb;simp only[yAb]at h;subst h;rw[hx.rM];refine⟨.int .u8 b.toNat,?_,.int _ _⟩;have hlt:z.toNat<s.length:=(yA.1 hb).1;have:(ByteArray.mk s.toArray)[z.toNat]?=some b:=by
    rw[getElem?_pos _ _ (by simpa [ByteArray.size]using hlt)];have hg:s[z.toNat]=b:=(yA.1 hb).2;simp only[ByteArray.getElem_eq_getElem_data,yAb];simpa using hg
   simp[Instr.index,asIntOf,yAM hu,h0,this]
  .exact af
 .exact af
theorem FJ{a:Act}{fr:Ey}(hf:FR c a fr){x:Operand}{m:Nat}(h:fK (aX fr x)=some m):∃k z,a.eval x=.int k z/\0<=z/\z.toNat=m:=by
 cases he:aX fr x with
 |none=>simp[he,fK]at h
 |some p=>
  rw[he]at h;exact CY h (dO hf he)
theorem IL{a:Act}{fr:Ey}(hf:FR c a fr){n cap l h:Nat}{lo hi:Option Operand}(hb:kK n (lo.map (aX fr)) (hi.map (aX fr))=some (l,h))(hc:n<=cap)(isS:Bool)(w:World) :
  l<=h/\h<=n/\(Instr.sliceBounds isS n cap (lo.map a.eval) (hi.map a.eval) none).run P w=.ok (l,h,cap) w:=by
 unfold kK at hb;split at hb
 .rename_i h' l' h1 h2;split at hb
  .rename_i hle;simp only[yAb,yAc]at hb;obtain⟨rfl,rfl⟩:=hb;refine⟨hle.1,hle.2,?_⟩;cases hi with
   |none=>
    simp at h1;subst h1;cases lo with
    |none=>simp at h2;subst h2;simp[Instr.sliceBounds]
    |some lo=>
     obtain⟨k,z,e,h0,rfl⟩:=FJ hf (by simpa using h2);have hz:z<=(n:Int):=ye;simp[Instr.sliceBounds,e,yCw (P:=P) (w:=w) k z _ _ h0 hz]
   |some hi=>
    obtain⟨k',z',e',h0',rfl⟩:=FJ hf Ao;have C4:z'<=(cap:Int):=ye;cases lo with
    |none=>simp at h2;subst h2;simp[Instr.sliceBounds,e',yCw (P:=P) (w:=w) k' z' _ _ h0' C4]
    |some lo=>
     obtain⟨k,z,e,h0,rfl⟩:=FJ hf (by simpa using h2);have hz:z<=(z'.toNat:Int):=ye;simp[Instr.sliceBounds,e,e',yCw (P:=P) (w:=w) k' z' _ _ h0' C4,yCw (P:=P) (w:=w) k z _ _ h0 hz]
  .simp at hb
 .simp at hb
theorem aAw{a:Act}{fr:Ey}(hf:FR c a fr){n cap l h m:Nat}{lo:Option Operand}{hi mx:Operand}(hb:kK n (lo.map (aX fr)) ((some hi).map (aX fr))=some (l,h))(hm:fK (aX fr mx)=some m)
  (h1:h<=m) (h2:m<=n) (hc:n<=cap) (isS:Bool) (w:World) :
  l<=h/\h<=n/\(Instr.sliceBounds isS n cap (lo.map a.eval) (some (a.eval hi)) (some (a.eval mx))).run P w=.ok (l,h,m) w:=by
 obtain⟨km,zm,em,hm0,rfl⟩:=FJ hf hm;unfold kK at hb;split at hb
 .rename_i h' l' h3 h4;split at hb
  .rename_i hle;simp only[yAb,yAc]at hb;obtain⟨rfl,rfl⟩:=hb;refine⟨hle.1,hle.2,?_⟩;obtain⟨k',z',e',h0',rfl⟩:=FJ hf Dr;have hzm:zm<=(cap:Int):=ye;have C4:z'<=(zm.toNat:Int):=ye;cases lo with
   |none=>simp at h4;subst h4;simp[Instr.sliceBounds,e',em,yCw (P:=P) (w:=w) km zm _ _ hm0 hzm,yCw (P:=P) (w:=w) k' z' _ _ h0' C4]
   |some lo=>
    obtain⟨k,z,e,h0,rfl⟩:=FJ hf (by simpa using h4);have jI:z<=(z'.toNat:Int):=ye;simp[Instr.sliceBounds,e,e',em,yCw (P:=P) (w:=w) km zm _ _ hm0 hzm,yCw (P:=P) (w:=w) k' z' _ _ h0' C4,yCw (P:=P) (w:=w) k z _ _ h0 jI]
  .simp at hb
 .simp at hb
theorem aAx{A:Option Addr}{cap size n l h m:Nat}{xs:Ey}{fl:Fa}{tok:Tok}(hn:xs.length=0\/n=size)(hlh:l<=h)(hhx:h<=xs.length)(hhm:h<=m)(hmc:m<=cap)(hcm:cap<=maxLen)
  (h3:∀x∈xs,x.cells.length=size) (h4:fl.length=xs.length*size) (h5:∀v∈fl,v.oneCell'=true)
  (h6:∀(j:Nat) (v:Value),fl[j]?=some v->∃ad,A=some ad/\c.w.cell? (ad.add j)=some v/\c.av (ad.add j))
  (h7:∀(j:Nat) (v:Value) (d:PD),fl[j]?=some v->(xs.flatMap PD.cells)[j]?=some d->VR c v d)
  (ht:qP c size (h-l) (m-l) (.slice (if m=l then A else A.map (·.add (l*n))) (h-l) (m-l)) tok) :
  VR c (.slice (if m=l then A else A.map (·.add (l*n))) (h-l) (m-l)) (.slice size ((xs.drop l).take (h-l)) tok):=by
 have hxs:∀x∈(xs.drop l).take (h-l),x.cells.length=size:=λx hx=>h3 x (yBg (yAy hx))
 have hlen:((xs.drop l).take (h-l)).length=h-l:=zf;have hdl:∀x∈xs.drop l,x.cells.length=size:=λx hx=>h3 x (yBg hx)
 have hfl:((fl.drop (l*size)).take ((h-l)*size)).length=(h-l)*size:=by
  have:l*size+(h-l)*size<=fl.length:=by
   rw[h4,<-yBu];exact yBK _ ye
  simp;omega
 refine .slice _ _ _ size _ tok ((fl.drop (l*size)).take ((h-l)*size)) hlen.symm ye ye hxs hfl
  (λv hv=>h5 v (yBg (yAy hv))) ?_ ?_ ht
 .intro j v hv;have hj:j<(h-l)*size:=by rw[<-hfl];exact(yA.1 hv).1
  rw[yAv,yAJ hj,yBl]at hv;obtain⟨ad,rfl,h9,h10⟩:=h6 _ v hv;have hpos:0<h-l:=by
   rcases yEb (h-l)with e|e
   .rw[e]at hj;simp at hj
   .exact e
  have hne:¬m=l:=ye;have hns:n=size:=hn.resolve_left ye;subst hns;rw[yAI hne];exact⟨_,rfl,by rw[CI];exact h9,by rw[CI];exact h10⟩
 .intro j v d hv hd;have hj:j<(h-l)*size:=by rw[<-hfl];exact(yA.1 hv).1
  rw[yAv,yAJ hj,yBl]at hv;rw[aAv _ _ hdl,aAu _ _ h3,yAv,yAJ hj,yBl]at hd;exact h7 _ v d hv hd
theorem aHG{a:Act}{fr:Ey}(hf:FR c a fr){t:TypeId}{x p:PD}{lo hi mx:Option Operand}
  (h:jY P t x (lo.map (aX fr)) (hi.map (aX fr)) (mx.map (aX fr))=some p) {vx:Value} (hx:VR c vx x) (w:World) :
  ∃v,(Instr.sliceAt t vx (lo.map a.eval) (hi.map a.eval) (mx.map a.eval)).run P w=.ok v w/\VR c v p:=by
 unfold jY at h;split at h
 .rename_i s hu;split at h
  .exact af
  .rename_i hmx;have yV:mx=none:=Bl;subst yV;split at h
   .rename_i l hh hb;simp only[yAb]at h;subst h;rw[hx.rM];have hz:(ByteArray.mk s.toArray).size=s.length:=MQ s;obtain⟨h1,h2,h3⟩:=IL (P:=P) hf hb (yAk _) false w;refine⟨.string ⟨((s.drop l).take (hh-l)).toArray⟩,?_,.str _⟩;simp[Instr.sliceAt,Instr.slice,yAM hu,hz,h3,aHO]
   .exact af
 .rename_i e size xs tok hu;split at h
  .rename_i n l hh hn hb;split at h
   .rename_i hsz;obtain⟨A,cap,fl,rfl,h1,h2,h3,h4,h5,h6,h7,h8⟩:=hx.nS;split at h
    ·
     rename_i hmx;have yV:mx=none:=Bl;subst yV;simp only[yAb]at h;subst h;obtain⟨b1,b2,b3⟩:=IL (P:=P) hf hb h1 true w;refine⟨_,?_,aAx (n:=n) (m:=cap) hsz b1 b2 ye (yAk _) h2 h3 h4 h5 h6 h7 ?_⟩
     .exact oe
     .by_cases hhe:hh=xs.length
      .rw[yAJ hhe];cases tok with
       |any=>trivial
       |full=>simp only[qP]at h8 ⊢;omega
       |nil=>trivial
       |iK=>trivial
       |jF=>trivial
       |own id=>
        by_cases hl0:l=0
        .subst hl0;simp only[↓reduceIte];have:(if cap=0 then A else A.map (·.add (0*n)))=A:=by
          split
          .rfl
          .cases A<;>simp[Addr.add]
         rw[this,hhe];simpa using h8
        .simp only[hl0,yAN];trivial
      .rw[yAI hhe];trivial
    .rename_i m hmx;split at h
     .rename_i wX m' hhi hm;split at h
      .rename_i hle;simp only[yAb]at h;subst h;cases mx with
       |none=>simp at hmx
       |some mx=>
        cases hi with
        |none=>simp at hhi
        |some hi=>
         simp at hmx;subst hmx;obtain⟨b1,b2,b3⟩:=aAw (P:=P) hf hb hm hle.1 hle.2 h1 true w;refine⟨_,?_,aAx (n:=n) (m:=m') hsz b1 b2 hle.1 ye h2 h3 h4 h5 h6 h7 ?_⟩
         .exact oe
         .by_cases hme:m'=hh
          .rw[yAJ hme];simp only[qP];omega
          .rw[yAI hme];trivial
      .exact af
     .exact af
   .exact af
  .exact af
 .rename_i e id off m size hu;split at h
  .rename_i n l hh hn hb hmx;split at h
   .rename_i hc;obtain⟨rfl,hl⟩:=hc;simp only[yAb]at h;subst h;obtain⟨b,cap,rfl,hd,hp,hr,h1,h2⟩:=hx.CV;have yV:mx=none:=Bl;subst yV;obtain⟨b1,b2,b3⟩:=IL (P:=P) hf hb h1 true w;refine⟨.slice (some ⟨b,off+l*n,none⟩) (hh-l) (cap-l),?_,.cV _ _ _ _ _ b hd hp hr ye ye⟩;exact cz
   .exact af
  .exact af
 .rename_i e id ver off m size hu;split at h
  .rename_i n l hh hn hb;split at h
   .rename_i hc;subst hc;obtain⟨b,cap,rfl,hp,h1,h2⟩:=hx.AU;split at h
    .rename_i hmx;have yV:mx=none:=Bl;subst yV;obtain⟨b1,b2,b3⟩:=IL (P:=P) hf hb h1 true w;split at h
     .rename_i hl;simp only[yAb]at h;subst h;refine⟨.slice (some ⟨b,off+l*n,none⟩) (hh-l) (cap-l),?_,.aU _ _ _ _ _ _ b ⟨hp.1,λe sz v' cs hs=>⟨(hp.2 e sz v' cs hs).1,λhv=>?_⟩⟩ ye ye⟩
      .exact cz
      .obtain⟨q1,C,q2,q3⟩:=(hp.2 e sz v' cs hs).2 hv;refine⟨q1,C,q2,?_⟩;rw[<-q3,Nat.sub_mul,yBX]
       congr 1
       have:l*n<=cap*n:=yBK _ ye;omega
     .rename_i hl;simp only[yAb]at h;subst h;have hlh:hh-l=0:=ye;refine⟨.slice (if cap=l then(some ⟨b,off,none⟩:Option Addr)else(some ⟨b,off,none⟩:Option Addr).map (·.add (l*n))) (hh-l) (cap-l),?_,?_⟩
      .simp only[Instr.sliceAt,Instr.slice,yBa,yAM hu,yBj,yDI,b3,mI hn,yBk]
      .rw[hlh];exact .slice _ 0 _ n [] .any [] rfl (yAF _) ye yg yg yg yg yg trivial
    .rename_i mv hmx;split at h
     .rename_i wX k hhi hk;split at h
      .rename_i hc;obtain⟨rfl,rfl⟩:=hc;simp only[yAb]at h;subst h;cases mx with
       |none=>simp at hmx
       |some mx=>
        cases hi with
        |none=>simp at hhi
        |some hi=>
         simp at hmx;subst hmx;have hlm:l<=m:=by
          unfold kK at hb;split at hb
          .split at hb
           .simp only[yAb,yAc]at hb;omega
           .cases hb
          .cases hb
         obtain⟨b1,b2,b3⟩:=aAw (P:=P) hf hb hk (yAk _) hlm h1 true w;refine⟨.slice (some ⟨b,off,none⟩) (l-l) (l-l),?_,?_⟩
         .exact oe
         .rw[yCx];exact .slice _ 0 0 n [] .full [] rfl (yAF _) (yAF _) yg yg yg yg yg rfl
      .exact af
     .exact af
   .exact af
  .exact af
 .rename_i len e id off hu;split at h
  .rename_i n l hh hn hb hmx;split at h
   .rename_i hc;obtain⟨hlen,hl⟩:=hc;simp only[yAb]at h;subst h;obtain⟨b,rfl,hd,hp,hr⟩:=hx.sI;have yV:mx=none:=Bl;subst yV;obtain⟨b1,b2,b3⟩:=IL (P:=P) hf hb (yAk _) false w;have hml:len<=maxLen:=yAW hlen (by unfold maxLen;decide);refine⟨.slice (some ⟨b,off+l*n,none⟩) (hh-l) (len-l),?_,.cV _ _ _ _ _ b hd hp hr ye ye⟩;have:(if len=l then(⟨b,off,none⟩:Addr)else(⟨b,off,none⟩:Addr).add (l*n))=⟨b,off+l*n,none⟩:=by
     split
     .have:l=0:=by omega
      subst this;simp
     .simp[Addr.add]
    simp[Instr.sliceAt,Instr.sureAddr,yAM hu,b3,mI hn,this]
   .exact af
  .exact af
 .exact af
end
end
section
section
variable{P:Program}{c:Cx}
theorem aAs(off:Nat):∀(l:List Value) (k:Nat) (cells:Array Value),off+k+l.length<=cells.size ->
  ((l.zipIdx k).foldl (fun(cs:Array Value) (x:Value×Nat)=>cs.setIfInBounds (off+x.2) x.1) cells).toList=cells.toList.take (off+k)++l++cells.toList.drop (off+k+l.length)
 | [],k,cells,_=>yg
 |v::l,k,cells,h=>by
  simp only[yAS]at h;rw[List.zipIdx_cons,yDm,aAs off l (k+1) _ zf];simp only[yE,yAS];have e1:(cells.toList.set (off+k) v).take (off+(k+1))=cells.toList.take (off+k)++[v]:=by
   have hlt:off+k<cells.toList.length:=zf;rw[show off+(k+1)=(off+k)+1 by omega,yBG (by simpa using hlt)]
   congr 1
   .rw[List.take_set];rw[yEg zf]
   .simp
  have e2:(cells.toList.set (off+k) v).drop (off+(k+1)+l.length)=cells.toList.drop (off+k+(l.length+1)):=by
   rw[List.drop_set_of_lt ye]
   congr 1
   omega
  rw[e1,e2];simp
theorem RT{cells:Fa}{z:Ey}(hz:aS c cells z){v:Value}{p:PD}(hv:VR c v p)(off:Nat)(hle:off+p.cells.length<=z.length) :
  aS c (cells.take off++v.cells.toList++cells.drop (off+v.cells.toList.length)) (eC z off p.cells):=by
 have hc:=hv.cells;have hl:v.cells.toList.length=p.cells.length:=hc.1;have h0:cells.length=z.length:=hz.1;refine⟨by simp[eC,hl,h0],λi u d hu hd=>?_⟩;unfold eC at hd;rw[yAi]at hu hd;rw[yDb]at hu hd;simp only[yAt]at hu hd
 by_cases h1:i<min off cells.length
 .rw[yAJ h1]at hu;rw[yAJ ye]at hd;rw[yAv,yAJ ye]at hu hd;exact hz.2 i u d hu hd
 .rw[yAI h1]at hu;rw[yAI ye]at hd;rw[yDb]at hu hd;have hm:min off cells.length=off:=ye;have hm':min off z.length=off:=ye;rw[hm]at hu;rw[hm']at hd
  by_cases h2:i-off<p.cells.length
  .rw[yAJ ye]at hu;rw[yAJ h2]at hd;exact hc.2 _ u d hu hd
  .rw[yAI ye]at hu;rw[yAI h2]at hd;rw[yBl]at hu hd;rw[hl]at hu;exact hz.2 _ u d hu hd
theorem MI{cells:Fa}(h:∀v∈cells,v.oneCell'=true){new:Fa}(hn:∀v∈new,v.oneCell'=true)(off n:Nat):∀v∈cells.take off++new++cells.drop n,v.oneCell'=true:=by
 intro v hv;simp only[yBf]at hv;rcases hv with(h1|h1)|h1
 .exact h v (yAy h1)
 .exact hn v h1
 .exact h v (yBg h1)
theorem ML{place:Nat->Option (Nat×Nat)}:∀(parts:List (Nat×PD)) (vparts:List (Nat×Value)) (z:List PD) (cells:Array Value) (cs:List PD),
  vparts.length=parts.length->(∀(i:Nat) (jv:Nat×Value) (jp:Nat×PD),vparts[i]?=some jv->parts[i]?=some jp->jv.1=jp.1/\VR c jv.2 jp.2) ->
  aS c cells.toList z->(∀v∈cells.toList,v.oneCell'=true)->wT place z parts=some cs ->
  ∃cells',Instr.fill place cells vparts=some cells'/\aS c cells'.toList cs/\∀v∈cells'.toList,v.oneCell'=true
 | [],[],z,cells,cs,_,_,hz,h1,h=>by simp[wT]at h;subst h;exact⟨cells,rfl,hz,h1⟩
 | [],_::_,_,_,_,hl,_,_,_,_=>by simp at hl
 |_::_,[],_,_,_,hl,_,_,_,_=>by simp at hl
 |(i,p)::parts,(i',v)::vparts,z,cells,cs,hl,hp,hz,h1,h=>by
  obtain⟨e,hv⟩:=hp 0 (i',v) (i,p) rfl rfl;simp only at e hv;subst e;unfold wT at h;unfold Instr.fill;cases hpl:place i' with
  |none=>simp[hpl]at h
  |some on=>
   obtain⟨off,n⟩:=on;simp only[hpl]at h ⊢;have hcl:v.cells.size=p.cells.length:=by have:=hv.cells.1;simpa using this
   have hzl:cells.size=z.length:=by have:=hz.1;simpa using this
   split at h
   .exact af
   .rename_i hn;have CL:¬p.cells.length≠n:=λq=>hn (.inl q)
    have hn2:¬off+p.cells.length > z.length:=λq=>hn (.inr (.inl q))
    have hn3:p.cells.all PD.plain=true:=by
     cases hq:p.cells.all PD.plain with
     |true=>rfl
     |false=>exact(hn (.inr (.inr hq))).elim
    have qQ:=aS.wW hv.cells hn3;have hcond:¬(decide (v.cells.size≠n)||decide (off+v.cells.size > cells.size))=true:=by
     rw[hcl,hzl];simp only[yBp,yBY]
     rintro(q|q)
     .exact CL q
     .exact hn2 q
    rw[yAI hcond];have hle:off+p.cells.length<=z.length:=ye;have hfold:(v.cells.zipIdx.foldl (λcs (c,j)=>cs.setIfInBounds (off+j) c) cells).toList=cells.toList.take off++v.cells.toList++cells.toList.drop (off+v.cells.toList.length):=by
     rw[<-Array.foldl_toList,Array.toList_zipIdx];have:=aAs off v.cells.toList 0 cells zf;exact bq
    refine ML parts vparts _ _ cs Bb (λi jv jp a b=>hp (i+1) jv jp Bh Bi) ?_ ?_ h
    .rw[hfold];exact RT hz hv off hle
    .rw[hfold];exact MI h1 qQ off _
theorem CX{t:TypeId}{p:PD}(h:eE P t=some p):∃v i,P.info? t=some i/\i.zero=some v/\VR c v p:=by
 unfold eE at h;split at h
 .rename_i i hi;split at h
  .rename_i z hz;exact⟨z,i,hi,hz,RR h⟩
  .exact af
 .exact af
theorem aAt:∀ {fs:List Field} {pl:List (Nat×Nat)},ER P fs=some pl->fs.mapM (λf=>(P.info? f.type).map λi=>(f.offset,i.size))=some pl
 | [],pl,h=>by simp[ER]at h;subst h;rfl
 |f::fs,pl,h=>by
  unfold ER at h;split at h
  .rename_i n ps hn hp;simp only[yAb]at h;subst h;obtain⟨i,hi,hs⟩:=MK hn;simp[List.mapM_cons,aAt hp,hi,hs]
  .exact af
theorem aHM{t:TypeId}{parts:List (Nat×PD)}{vparts:List (Nat×Value)}{p:PD}(h:CM P t parts=some p)(hl:vparts.length=parts.length)
  (hp:∀(i:Nat) (jv:Nat×Value) (jp:Nat×PD),vparts[i]?=some jv->parts[i]?=some jp->jv.1=jp.1/\VR c jv.2 jp.2) (w:World) :
  ∃v,(Instr.build t vparts.toArray).run P w=.ok v w/\VR c v p:=by
 unfold CM at h;split at h
 .rename_i z hz;obtain⟨zv,i,hi,hzv,hzr⟩:=CX (c:=c) hz;obtain⟨cs,rfl,hcs,dI⟩:=hzr.yU;split at h
  .rename_i fs hu;split at h
   .rename_i pl hpl;split at h
    .rename_i out ho;simp only[yAb]at h;subst h;obtain⟨cells',h1,h2,h3⟩:=ML parts vparts z cs.toArray out hl hp (by simpa using hcs) (by simpa using dI) ho;refine⟨.agg cells',run_build w t _ cells' ?_,?_⟩
     .simp only[Program.built,hi,hu,hzv,aAt hpl,Value.cells];simpa using h1
     .exact xo
    .exact af
   .exact af
  .rename_i k e hu;split at h
   .rename_i n hn;split at h
    .rename_i out ho;simp only[yAb]at h;subst h;obtain⟨cells',h1,h2,h3⟩:=ML parts vparts z cs.toArray out hl hp (by simpa using hcs) (by simpa using dI) ho;obtain⟨ie,hie,hsz⟩:=MK hn;subst hsz;refine⟨.agg cells',run_build w t _ cells' ?_,?_⟩
     .simp only[Program.built,hi,hu,hzv,hie,Value.cells];simpa using h1
     .exact xo
    .exact af
   .exact af
  .exact af
 .exact af
theorem MF{a:Act}{fr:Ey}(hf:FR c a fr):∀ {parts:List (Nat×Operand)} {ps:List (Nat×PD)},pI fr parts=some ps ->
  (parts.map λq=>(q.1,a.eval q.2)).length=ps.length/\∀(i:Nat) (jv:Nat×Value) (jp:Nat×PD),(parts.map λq=>(q.1,a.eval q.2))[i]?=some jv->ps[i]?=some jp->jv.1=jp.1/\VR c jv.2 jp.2
 | [],ps,h=>by simp[pI]at h;subst h;simp
 |(j,x)::parts,ps,h=>by
  unfold pI at h;split at h
  .rename_i p qs h1 h2;simp only[yAb]at h;subst h;obtain⟨a1,a2⟩:=MF hf h2;refine⟨by simpa using a1,λi jv jp hv hp=>?_⟩;cases i with
   |zero=>simp at hv hp;subst hv;subst hp;exact⟨rfl,dO hf h1⟩
   |succ i=>exact a2 i jv jp (by simpa using hv) (by simpa using hp)
  .exact af
theorem RU(lt:Bool)(w:World):∀(vs:List Value) (x:PD) (r:List PD) (p:PD) (vx:Value),CP lt x r=some p->VR c vx x->aS c vs r ->
  ∃v,((vs.foldlM (if lt then Builtin.min2 else Builtin.max2) vx).run P w=.ok v w)/\VR c v p
 | [],x,[],p,vx,h,hx,_=>by
   unfold CP at h;split at h
   .simp only[yAb]at h;subst h;exact⟨vx,yg,hx⟩
   .rename_i e;simp at e
   .exact af
 | [],_,_::_,_,_,_,_,hl=>by have:=hl.1;simp at this
 |_::_,_,[],_,_,_,_,hl=>by have:=hl.1;simp at this
 |v::vs,x,y::r,p,vx,h,hx,hl=>by
  unfold CP at h;split at h
  .rename_i e;simp at e
  .rename_i k z k' z' r' e;simp at e;obtain⟨e1,e2⟩:=e;subst e1;subst e2;have hv:=hl.2 0 v _ rfl rfl;have h0:=hx.oW;have h1:=hv.oW;subst h0;subst h1;have htl:aS c vs r:=⟨by have:=hl.1;simpa using this,λi u d a b=>hl.2 (i+1) u d Bh Bi⟩;obtain⟨v,q1,q2⟩:=RU lt w vs _ r p _ h (VR.int _ _) htl;refine⟨v,?_,q2⟩;cases lt<;>simpa [List.foldlM_cons,Builtin.min2,Builtin.max2]using q1
  .exact af
theorem aHN{b:Builtin}{ts:Array TypeId}{args:Ey}{vargs:Fa}{p:PD}(h:jE P b ts args=some p)(ha:aS c vargs args)(ty:TypeId)(cs:Array Bool)(w:World) :
  ∃v,(builtin b ts ty cs vargs.toArray).run P w=.ok (.value v) w/\VR c v p:=by
 unfold jE at h;split at h
 .split at h
  .rename_i t ht;split at h
   .rename_i s r hu;simp only[yAb]at h;subst h;obtain⟨v,hv,hr⟩:=ha.get (i:=0) (d:=.str s) rfl;rw[hr.rM]at hv;refine⟨.int .i64 s.length,?_,.int _ _⟩;simp[builtin,Builtin.len_,ht,hv,yAM hu,goInt,MQ]
   .rename_i n e p0 r hu;simp only[yAb]at h;subst h;obtain⟨v,hv,hr⟩:=ha.get (i:=0) (d:=p0) rfl;exact gu
   .rename_i e sz xs tok r hu;simp only[yAb]at h;subst h;obtain⟨v,hv,hr⟩:=ha.get (i:=0) (d:=.slice sz xs tok) rfl;obtain⟨A,cap,fl,rfl,_⟩:=hr.nS;refine⟨.int .i64 xs.length,?_,.int _ _⟩;simp[builtin,Builtin.len_,ht,hv,yAM hu,goInt]
   .rename_i e id off n size r hu;simp only[yAb]at h;subst h;obtain⟨v,hv,hr⟩:=ha.get (i:=0) (d:=.cV id off n size) rfl;obtain⟨b,cap,rfl,_⟩:=hr.CV;exact gu
   .rename_i e id ver off n size r hu;simp only[yAb]at h;subst h;obtain⟨v,hv,hr⟩:=ha.get (i:=0) (d:=.aU id ver off n size) rfl;obtain⟨b,cap,rfl,_⟩:=hr.AU;exact gu
   .exact af
  .exact af
 .split at h
  .rename_i x r;cases vargs with
   |nil=>have:=ha.1;simp at this
   |cons v vs=>
    have htl:aS c vs r:=⟨by have:=ha.1;simpa using this,λi u d a b=>ha.2 (i+1) u d Bh Bi⟩;obtain⟨v',q1,q2⟩:=RU (P:=P) true w vs x r p v h (ha.2 0 v x rfl rfl) htl;exact⟨v',by simp at q1;simp[builtin,Builtin.min_,q1],q2⟩
  .exact af
 .split at h
  .rename_i x r;cases vargs with
   |nil=>have:=ha.1;simp at this
   |cons v vs=>
    have htl:aS c vs r:=⟨by have:=ha.1;simpa using this,λi u d a b=>ha.2 (i+1) u d Bh Bi⟩;obtain⟨v',q1,q2⟩:=RU (P:=P) false w vs x r p v h (ha.2 0 v x rfl rfl) htl;exact⟨v',by simp at q1;simp[builtin,Builtin.max_,q1],q2⟩
  .exact af
 .split at h
  .rename_i t ht;split at h
   .rename_i e sz xs r hu;simp only[yAb]at h;subst h;obtain⟨v,hv,hr⟩:=ha.get (i:=0) (d:=.slice sz xs .full) rfl;obtain⟨A,cap,fl,rfl,a1,a2,a3,a4,a5,a6,a7,a8⟩:=hr.nS;have hc:xs.length=cap:=by simp only[qP]at a8;omega
    refine⟨.int .i64 xs.length,?_,.int _ _⟩;simp[builtin,Builtin.cap_,ht,hv,yAM hu,goInt,hc]
   .exact af
  .exact af
 .exact af
end
end
section
section
variable{P:Program}{c:Cx}
theorem aS.append{c:Cx}{a b:Fa}{x y:Ey}(h:aS c a x)(k:aS c b y):aS c (a++b) (x++y):=by
 refine⟨by simp[h.1,k.1],λi v d hv hd=>?_⟩;rw[yDb]at hv hd
 by_cases h1:i<a.length
 .rw[yAJ h1]at hv;rw[yAJ (by rw[<-h.1];exact h1)]at hd;exact h.2 i v d hv hd
 .rw[yAI h1]at hv;rw[yAI (by rw[<-h.1];exact h1)]at hd;rw[<-h.1]at hd;exact k.2 _ v d hv hd
theorem aG5{a:Act}{fr:Ey}(hf:FR c a fr){o:Oper}{p:PD}(h:dL P fr o.op=some p)(w:World) :
  ∃v,(execOp a.eval o).run P w=.ok (.value v) w/\VR c v p:=by
 obtain⟨dst,op,ty,pos,after,guard⟩:=o;simp only at h;unfold dL at h;split at h
 .exact⟨_,by simp[execOp],dO hf h⟩
 .exact⟨_,by simp[execOp],dO hf h⟩
 .rename_i x y z;split at h
  .exact qg
  .exact qg
  .exact af
 .rename_i bop t x y yt;split at h
  .rename_i pa pb h1 h2;have hc:∃v,(do eqGuard bop t x y (a.eval x) (a.eval y);binOp bop t (a.eval x) (a.eval y):Sem Value).run P w=.ok v w/\VR c v p:=by
    split at h
    .rename_i r hr;simp only[yAb]at h;subst h;exact aHC hr (dO hf h1) (dO hf h2) w x y
    .exact aHD h (dO hf h1) w x
   obtain⟨v,r,q⟩:=hc;refine⟨v,?_,q⟩;have e:execOp a.eval ⟨dst,.binOp bop t x y yt,ty,pos,after,guard⟩=((do eqGuard bop t x y (a.eval x) (a.eval y);binOp bop t (a.eval x) (a.eval y):Sem Value) >>= λz=>pure (.value z)):=rfl;rw[e,yBa,r];rfl
  .exact af
 .rename_i uop t x;split at h
  .rename_i pa h1;obtain⟨v,r,q⟩:=aHE (P:=P) h (dO hf h1) w;exact fj
  .exact af
 .rename_i s d x;split at h
  .exact af
  .split at h
   .rename_i pa h1;obtain⟨v,r,q⟩:=aHF h (dO hf h1) w;exact fj
   .exact af
 .rename_i f first captured;split at h
  .rename_i h0;split at h
   .rename_i ps hps;simp only[yAb]at h;subst h;have hv:=rL hf hps;have e:first=#[]:=yEf h0;subst e;refine⟨.func (.func f) #[] (captured.toList.map a.eval).toArray,?_,.func f _ ps hv.1 hv.2⟩;have e2:captured.map a.eval=(captured.toList.map a.eval).toArray:=At;simp[execOp,Instr.makeFunc,e2]
   .exact af
  .split at h
   .rename_i h0;split at h
    .rename_i ps hps;simp only[yAb]at h;subst h;have hv:=rL hf hps;have e:captured=#[]:=yEf h0;subst e;refine⟨.func (.func f) (first.toList.map a.eval).toArray #[],?_,.jH f _ ps hv.1 hv.2⟩;have e2:first.map a.eval=(first.toList.map a.eval).toArray:=At;simp[execOp,Instr.makeFunc,e2]
    .exact af
   .exact af
 .rename_i t x lo hi mx;split at h
  .rename_i pa h1;obtain⟨v,r,q⟩:=aHG hf h (dO hf h1) w;exact fj
  .exact af
 .rename_i s x f;split at h
  .rename_i pa h1;obtain⟨v,r,q⟩:=aHH h (dO hf h1) w;exact fj
  .exact af
 .rename_i t x f;split at h
  .rename_i pa h1;obtain⟨v,r,q⟩:=aHI h (dO hf h1) w;exact fj
  .exact af
 .rename_i t x i;split at h
  .rename_i pa pb h1 h2;obtain⟨v,r,q⟩:=aHJ h (dO hf h1) (dO hf h2) w;exact fj
  .exact af
 .rename_i t x i;split at h
  .rename_i pa pb h1 h2;obtain⟨v,r,q⟩:=aHK h (dO hf h1) (dO hf h2) w;exact fj
  .exact af
 .rename_i x i;split at h
  .rename_i vs h1;obtain⟨cs,e,hcs⟩:=(dO hf h1).aHL;obtain⟨v,hv,q⟩:=hcs.get h;exact⟨v,by simp[execOp,e,Instr.extract,hv],q⟩
  .exact af
 .rename_i x;split at h
  .rename_i id off h1;simp only[yAb]at h;subst h;have hv:=dO hf h1;obtain⟨b,e,_⟩:=hv.sI;exact ql
  .rename_i cs off h1;simp only[yAb]at h;subst h;have hv:=dO hf h1;obtain⟨ad,fl,e,_⟩:=hv.FG;exact⟨.pointer (some (ad.add off)),by simp[execOp,e],by rw[<-e];exact hv⟩
  .rename_i id ver off h1;simp only[yAb]at h;subst h;have hv:=dO hf h1;obtain⟨b,e,_⟩:=hv.FA;exact ql
  .exact af
 .rename_i t parts;split at h
  .rename_i ps h1;obtain⟨a1,a2⟩:=MF hf h1;obtain⟨v,r,q⟩:=aHM h a1 a2 w;refine⟨v,?_,q⟩;have e:(parts.map fun(x:Nat×Operand)=>(x.1,a.eval x.2))=(parts.toList.map λq=>(q.1,a.eval q.2)).toArray:=At;simp only[execOp,yBa];rw[show(Array.map (λx=>match x with|(i,x)=>(i,a.eval x)) parts)=(parts.toList.map λq=>(q.1,a.eval q.2)).toArray from by simpa using e,r];simp
  .exact af
 .rename_i b args ts;split at h
  .rename_i ps h1;have hv:=rL hf h1;obtain⟨v,r,q⟩:=aHN h hv ty (args.map λ|.const _=>true|_=>false) w;refine⟨v,?_,q⟩;simp only[execOp,resolve,invoke,yBa,yBk,yBj];rw[show args.map a.eval=(args.toList.map a.eval).toArray from by apply yCg;simp];exact r
  .exact af
 .exact af
end
end
section
open Go.RowKit
section
variable{c:Cx}{fl:Nat}
theorem fM{w:World}{b:Nat}{o:Obj}(h:w.heap[b]?=some o):b<w.heap.size:=(yDE.1 h).1
theorem yP{w:World}{a:Addr}{v:Value}(h:w.cell? a=some v):a.block<w.heap.size:=World.block_lt_of_cell? w a h
def Cx.at(c:Cx)(w:World):Cx:={ c with w:=w }
theorem Nx.grow{w':World}(_hs:Sr c)(h:c.w.grownBy w' none):Nx fl c (c.at w') where
 X:=rfl
 os:=h.os
 tape:=h.tape
 output:=h.output
 size:=h.size
 len:=yAk _
 cell:=λa v ha hv=>⟨ha,by
  show w'.cell? a=some v
  rw[yCI (h.block a.block (yP hv) yg)];exact hv⟩
 bA:=λ_ h=>h
 new:=λ_ h=>.inl h
 rK:=λ_ p _ h=>⟨rfl,p,h⟩
 mG:=λ_ _ h=>⟨rfl,h⟩
 sJ:=λ_ _ _ n _ h=>⟨n,h,yAk _,λ_=>rfl⟩
 sK:=λ_ _ _ v cs _ h=>⟨v,cs,h,yAk _,λ_=>rfl⟩
 back:=λ_ _ h h' _=>⟨h,h'⟩
 frame:=λk hk _=>h.block k hk yg
 ro:=λ_ _ _=>rfl
 hole:=λ_ _ _=>rfl
theorem AT{w w':World}{e:TypeId}{size n:Nat}{v:Value}{xs:Fa}(h:w.ownsRowF 0 e size v n xs)(hb:∀g,aY v=some g->w'.heap[g]?=w.heap[g]?):w'.ownsRowF 0 e size v n xs:=by
 refine⟨h.1,?_⟩;rcases h.2 with hn | ⟨g,cap,cur,fz,rfl,hb0,hg,rest⟩
 .exact .inl hn
 .exact .inr ⟨g,cap,cur,fz,rfl,hb0,by rw[hb g rfl];exact hg,rest⟩
theorem Sr.grow{w':World}(hs:Sr c)(h:c.w.grownBy w' none):Sr (c.at w') where
 box:=λid p hd hp=>by
  obtain⟨b,cs,T,e1,e2,e3,e4⟩:=hs.box id p hd hp;exact⟨b,cs,T,e1,by show w'.heap[b]?=_;rw[h.block b (fM e2) yg];exact e2,e3.mono (Nx.grow (fl:=0) hs h),e4⟩
 own:=λid e size n hd ho=>by
  obtain⟨xs,hx⟩:=hs.own id e size n hd ho;exact td
 mark:=λid hd hm=>by
  obtain⟨b,e1,e2⟩:=hs.mark id hd hm;exact⟨b,e1,by show w'.heap[b]?=_;rw[h.block b (fM e2) yg];exact e2⟩
 row:=λid e sz ver ds hd ho=>by
  obtain⟨b,C,cur,e1,e2,e3,e4,e5,e6,e7,e8⟩:=hs.row id e sz ver ds hd ho;exact⟨b,C,cur,e1,by show w'.heap[b]?=_;rw[h.block b (fM e2) yg];exact e2,e3,e4,e5,e6,e7.mono (Nx.grow (fl:=0) hs h),e8⟩
 map:=λid es hd ho=>by
  obtain⟨b,ents,clock,e1,e2,e3,e4⟩:=hs.map id es hd ho;exact⟨b,ents,clock,e1,by show w'.heap[b]?=_;rw[h.block b (fM e2) yg];exact e2,e3.mono (Nx.grow (fl:=0) hs h),e4.mono (Nx.grow (fl:=0) hs h)⟩
 loop:=λid st fr ps asg bd hd hl=>by
  obtain⟨b,r,e1,e2,e3,e4,e5,e6,e7⟩:=hs.loop id st fr ps asg bd hd hl;exact⟨b,r,e1,by show w'.heap[b]?=_;rw[h.block b (fM e2) yg];exact e2,e3,e4,e5,e6.mono (Nx.grow (fl:=0) hs h),e7⟩
 inj:=hs.inj
 lt:=λid b hd hb=>yBP (hs.lt id b hd hb) h.size
 bA:=hs.bA
 fresh:=λa ha=>hs.fresh a (yAW h.size ha)
 jA:=hs.jA.mono (Nx.grow (fl:=0) hs h)
theorem grownBy_drew(w:World):w.grownBy w.drew none:=⟨rfl,rfl,rfl,yAk _,λ_ _ _=>rfl⟩
def Cx.push(c:Cx)(w:World)(v:Value)(o:aB):Cx:=
 { w:=w,ρ:=λi=>if i=c.σ.length then v else c.ρ i,σ:=c.σ++[o],D:=λi=>c.D i\/i=c.σ.length,X:=c.X }
theorem aHA{id:Nat}(hs:Sr c)(hd:c.D id):id≠c.σ.length:=Nat.ne_of_lt (hs.bA id hd)
theorem oG{w:World}{v:Value}{o:aB}{id:Nat}(hs:Sr c)(hd:c.D id):(c.push w v o).ρ id=c.ρ id:=by simp[Cx.push,aHA hs hd]
theorem tY{w:World}{v:Value}{o:aB}{id:Nat}(hs:Sr c)(hd:c.D id):(c.push w v o).σ[id]?=c.σ[id]?:=by
 simp[Cx.push,yAg (hs.bA id hd)]
theorem gC{w:World}{v:Value}{o:aB}:(c.push w v o).σ[c.σ.length]?=some o/\(c.push w v o).ρ c.σ.length=v/\(c.push w v o).D c.σ.length:=by simp[Cx.push]
theorem Nx.push{w':World}{v:Value}{o:aB}(hs:Sr c)(h:c.w.grownBy w' none)(hv:∀b,aY v=some b->c.w.heap.size<=b):Nx fl c (c.push w' v o) where
 X:=rfl
 os:=h.os
 tape:=h.tape
 output:=h.output
 size:=h.size
 len:=by simp[Cx.push]
 cell:=λa u ha hu=>by
  have hlt:=yP hu;refine⟨⟨ha.1,λid o' hd ho=>?_⟩,by show w'.cell? a=some u;rw[yCI (h.block a.block hlt yg)];exact hu⟩;rcases hd with hd|rfl
  .rw[tY hs hd]at ho;rw[oG hs hd];exact ha.2 id o' hd ho
  .obtain⟨e1,e2,_⟩:=gC (c:=c) (w:=w') (v:=v) (o:=o);rw[e1]at ho;rw[e2];simp only[yAb]at ho;subst ho;cases o with
   |none=>trivial
   |box p=>intro b hb e;have:=hv b hb;omega
   |own e size n=>intro b hb e;have:=hv b hb;omega
   |row e size ver ds=>intro b hb e;have:=hv b hb;omega
   |map es=>trivial
   |mark=>trivial
   |loop st fr ps asg bd=>trivial
 bA:=λ_ h=>.inl h
 new:=λid hd=>by rcases hd with hd|rfl;exact .inl hd;exact .inr (yAk _)
 rK:=λid p hd hp=>⟨oG hs hd,p,by rw[tY hs hd];exact hp⟩
 mG:=λid hd hn=>⟨oG hs hd,by rw[tY hs hd];exact hn⟩
 sJ:=λid e s n hd ho=>⟨n,by rw[tY hs hd];exact ho,yAk _,λ_=>oG hs hd⟩
 sK:=λid e s v' cs hd ho=>⟨v',cs,by rw[tY hs hd]at ho;exact ho,yAk _,λ_=>oG hs hd⟩
 back:=λid b hd hb hlt=>by
  rcases hd with hd|rfl
  .rw[oG hs hd]at hb;exact⟨hd,hb⟩
  .rw[(gC (c:=c) (w:=w') (v:=v) (o:=o)).2.1]at hb;have:=hv b hb;omega
 frame:=λk hk _=>h.block k hk yg
 ro:=λid _ hl=>by simp[Cx.push,yAg hl]
 hole:=λid hl _=>by simp[Cx.push,yAg hl]
theorem Sr.push{w':World}{v:Value}{o:aB}(hs:Sr c)(h:c.w.grownBy w' none)(hv:∀b,aY v=some b->c.w.heap.size<=b/\b<w'.heap.size)
  (ho:match o with
   |.none=>True
   |.box p=>∃b cs T,v=.pointer (some ⟨b,0,none⟩)/\w'.heap[b]?=some (.cells cs T (0,0))/\aS c cs.toList p.cells/\(∀v∈cs.toList,v.oneCell'=true)/\∀t ds,p=.typed t ds->T=t
   |.own e size n=>∃xs,w'.ownsRowF 0 e size v n xs
   |.row e size _ ds=>∃b C cur,v=.slice (some ⟨b,0,none⟩) 0 C/\w'.heap[b]?=some (.cells cur e (0,0))/\cur.size=C*size/\C<=maxLen/\0<size /\
     ds.length<=cur.size/\aS c (cur.toList.take ds.length) ds/\∀v∈cur.toList,v.oneCell'=true
   |.map es=>∃b ents clock,v=.map (some b)/\w'.heap[b]?=some (.map ents clock)/\aS c (ents.toList.map MapEntry.key) (es.map Prod.fst)/\aS c (ents.toList.map MapEntry.val) (es.map Prod.snd)
   |.mark=>∃b,v=.pointer (some ⟨b,0,none⟩)/\w'.heap[b]?=some (.deferred (some []))
   |.loop st fr ps assign body=>∃b r,v=.pointer (some ⟨b,0,none⟩)/\w'.heap[b]?=some (.loop r)/\r.params=ps.toArray/\r.assign=assign/\r.body=body/\aS c r.tmps.toList fr/\st.fits r):Sr (c.push w' v o):=by
 have nx:Nx 0 c (c.push w' v o):=Nx.push hs h (λb hb=>(hv b hb).1);refine⟨?_,?_,?_,?_,?_,?_,?_,?_,?_,?_,hs.jA.mono nx⟩
 .intro id p hd hp;rcases hd with hd|rfl
  .rw[tY hs hd]at hp;obtain⟨b,cs,T,e1,e2,e3,e4⟩:=hs.box id p hd hp;exact⟨b,cs,T,(oG hs hd).trans e1,by show w'.heap[b]?=_;rw[h.block b (fM e2) yg];exact e2,e3.mono nx,e4⟩
  .rw[gC.1]at hp;simp only[yAb]at hp;subst hp;obtain⟨b,cs,T,e1,e2,e3,e4⟩:=ho;exact⟨b,cs,T,gC.2.1.trans e1,e2,e3.mono nx,e4⟩
 .intro id e size n hd hp;rcases hd with hd|rfl
  .rw[tY hs hd]at hp;obtain⟨xs,hx⟩:=hs.own id e size n hd hp;rw[oG hs hd];exact td
  .rw[gC.1]at hp;simp only[yAb]at hp;subst hp;rw[gC.2.1];exact ho
 .intro id e size ver ds hd hp;rcases hd with hd|rfl
  .rw[tY hs hd]at hp;obtain⟨b,C,cur,e1,e2,e3,e4,e5,e6,e7,e8⟩:=hs.row id e size ver ds hd hp;exact⟨b,C,cur,(oG hs hd).trans e1,by show w'.heap[b]?=_;rw[h.block b (fM e2) yg];exact e2,e3,e4,e5,e6,e7.mono nx,e8⟩
  .rw[gC.1]at hp;simp only[yAb]at hp;subst hp;obtain⟨b,C,cur,e1,e2,e3,e4,e5,e6,e7,e8⟩:=ho;exact⟨b,C,cur,gC.2.1.trans e1,e2,e3,e4,e5,e6,e7.mono nx,e8⟩
 .intro id es hd hp;rcases hd with hd|rfl
  .rw[tY hs hd]at hp;obtain⟨b,ents,clock,e1,e2,e3,e4⟩:=hs.map id es hd hp;exact⟨b,ents,clock,(oG hs hd).trans e1,by show w'.heap[b]?=_;rw[h.block b (fM e2) yg];exact e2,e3.mono nx,e4.mono nx⟩
  .rw[gC.1]at hp;simp only[yAb]at hp;subst hp;obtain⟨b,ents,clock,e1,e2,e3,e4⟩:=ho;exact⟨b,ents,clock,gC.2.1.trans e1,e2,e3.mono nx,e4.mono nx⟩
 .intro id hd hm;rcases hd with hd|rfl
  .rw[tY hs hd]at hm;obtain⟨b,e1,e2⟩:=hs.mark id hd hm;exact⟨b,(oG hs hd).trans e1,by show w'.heap[b]?=_;rw[h.block b (fM e2) yg];exact e2⟩
  .rw[gC.1]at hm;simp only[yAb]at hm;subst hm;obtain⟨b,e1,e2⟩:=ho;exact⟨b,gC.2.1.trans e1,e2⟩
 .intro id st fr ps asg bd hd hm;rcases hd with hd|rfl
  .rw[tY hs hd]at hm;obtain⟨b,r,e1,e2,e3,e4,e5,e6,e7⟩:=hs.loop id st fr ps asg bd hd hm;exact⟨b,r,(oG hs hd).trans e1,by show w'.heap[b]?=_;rw[h.block b (fM e2) yg];exact e2,e3,e4,e5,e6.mono nx,e7⟩
  .rw[gC.1]at hm;simp only[yAb]at hm;subst hm;obtain⟨b,r,e1,e2,e3,e4,e5,e6,e7⟩:=ho;exact⟨b,r,gC.2.1.trans e1,e2,e3,e4,e5,e6.mono nx,e7⟩
 .intro id id' b hd hd' hne hb hb';rcases hd with hd|rfl
  .rw[oG hs hd]at hb;rcases hd' with hd' | rfl
   .rw[oG hs hd']at hb';exact hs.inj id id' b hd hd' hne hb hb'
   .rw[gC.2.1]at hb';have:=(hv b hb').1;have:=hs.lt id b hd hb;omega
  .rw[gC.2.1]at hb;rcases hd' with hd' | rfl
   .rw[oG hs hd']at hb';have:=(hv b hb).1;have:=hs.lt id' b hd' hb';omega
   .exact hne rfl
 .intro id b hd hb;rcases hd with hd|rfl
  .rw[oG hs hd]at hb;exact yBP (hs.lt id b hd hb) h.size
  .rw[gC.2.1]at hb;exact(hv b hb).2
 .intro id hd;rcases hd with hd|rfl
  .have:=hs.bA id hd;simp[Cx.push];omega
  .simp[Cx.push]
 .exact λa ha=>hs.fresh a (yAW h.size ha)
def Cx.put(c:Cx)(w:World)(id:Nat)(v:Value)(o:aB):Cx:=
 { c with w:=w,ρ:=λi=>if i=id then v else c.ρ i,σ:=c.σ.set id o }
theorem dC{w:World}{v:Value}{o:aB}{id i:Nat}(h:i≠id):(c.put w id v o).σ[i]?=c.σ[i]?:=by simp[Cx.put,yAd (yBb h)]
theorem fH{w:World}{v:Value}{o:aB}{id i:Nat}(h:i≠id):(c.put w id v o).ρ i=c.ρ i:=by simp[Cx.put,h]
theorem eH{w:World}{v:Value}{o:aB}{id:Nat}(h:id<c.σ.length):(c.put w id v o).σ[id]?=some o:=by simp[Cx.put,h]
theorem lT{w:World}{v:Value}{o:aB}{id:Nat}:(c.put w id v o).ρ id=v:=Ck
theorem Nx.FH{w':World}{id b:Nat}{q q':PD}(hs:Sr c)(hd:c.D id)(hq:c.σ[id]?=some (.box q))(hr:c.ρ id=.pointer (some ⟨b,0,none⟩))(hfl:fl<=id)
  (h0:w'.os=c.w.os/\w'.tape=c.w.tape/\w'.output=c.w.output/\w'.heap.size=c.w.heap.size) (h1:∀k,k≠b->w'.heap[k]?=c.w.heap[k]?) :
  Nx fl c (c.put w' id (c.ρ id) (.box q')):=by
 have hρ:∀i,(c.put w' id (c.ρ id) (.box q')).ρ i=c.ρ i:=λi=>by
  exact ir
 have hb:aY (c.ρ id)=some b:=Ap;refine⟨rfl,h0.1,h0.2.1,h0.2.2.1,Nat.le_of_eq h0.2.2.2.symm,Ck,?_,λ_ h=>h,λ_ h=>.inl h,?_,?_,?_,?_,?_,?_,?_,λi _ hi=>dC (λe=>hi Dl)⟩
 .intro a u ha hu;have hne:a.block≠b:=ha.2 id _ hd hq b hb;refine⟨⟨ha.1,λi o hi ho=>?_⟩,by show w'.cell? a=some u;rw[yCI (h1 a.block hne)];exact hu⟩;rw[hρ]
  by_cases e:i=id
  .subst e;rw[eH (hs.bA i hd)]at ho;simp only[yAb]at ho;subst ho;exact λb' hb'=>ha.2 i _ hd hq b' hb'
  .rw[dC e]at ho;exact ha.2 i o hi ho
 .intro i p hi hp;refine⟨hρ i,?_⟩
  by_cases e:i=id
  .subst e;exact⟨q',eH (hs.bA i hd)⟩
  .exact⟨p,by rw[dC e];exact hp⟩
 .intro i hi hn;refine⟨hρ i,?_⟩
  by_cases e:i=id
  .subst e;rw[eH (hs.bA i hd)];trivial
  .rw[dC e];exact hn
 .intro i e' s n hi ho;have e:i≠id:=by rintro rfl;rw[hq]at ho;cases ho
  exact⟨n,by rw[dC e];exact ho,yAk _,λ_=>hρ i⟩
 .intro i e' s v cs hi ho;have e:i≠id:=zk;exact⟨v,cs,by rw[dC e]at ho;exact ho,yAk _,λ_=>hρ i⟩
 .intro i b' hi hb' _;rw[hρ]at hb';exact⟨hi,hb'⟩
 .intro k _ hk;exact h1 k (λe=>hk id hd hfl (by rw[e];exact hb))
 .exact nh
theorem Sr.FH{w':World}{id b:Nat}{q q':PD}{cs:Fb}{T:TypeId}(hs:Sr c)(hd:c.D id)(hq:c.σ[id]?=some (.box q))(hr:c.ρ id=.pointer (some ⟨b,0,none⟩))
  (h0:w'.os=c.w.os/\w'.tape=c.w.tape/\w'.output=c.w.output/\w'.heap.size=c.w.heap.size) (h1:∀k,k≠b->w'.heap[k]?=c.w.heap[k]?)
  (h2:w'.heap[b]?=some (.cells cs T (0,0))) (h3:aS c cs.toList q'.cells) (h4:(∀v∈cs.toList,v.oneCell'=true)/\∀t ds,q'=.typed t ds->T=t):Sr (c.put w' id (c.ρ id) (.box q')):=by
 have nx:Nx 0 c (c.put w' id (c.ρ id) (.box q')):=Nx.FH hs hd hq hr (yAF _) h0 h1;have hρ:∀i,(c.put w' id (c.ρ id) (.box q')).ρ i=c.ρ i:=λi=>by
  exact ir
 have hb:aY (c.ρ id)=some b:=Ap;refine⟨?_,?_,?_,?_,?_,?_,?_,?_,?_,?_,hs.jA.mono nx⟩
 .intro i p hi hp
  by_cases e:i=id
  .subst e;rw[eH (hs.bA i hd)]at hp;simp only[yAb,aB.box.injEq]at hp;subst hp;exact⟨b,cs,T,(hρ i).trans hr,h2,h3.mono nx,h4⟩
  .rw[dC e]at hp;obtain⟨b',cs',T',e1,e2,e3,e4⟩:=hs.box i p hi hp;refine⟨b',cs',T',(hρ i).trans e1,?_,e3.mono nx,e4⟩;exact bu
 .intro i e' s n hi ho;have e:i≠id:=zk;rw[dC e]at ho;obtain⟨xs,hx⟩:=hs.own i e' s n hi ho;rw[hρ];exact⟨xs,AT hx (λg hg=>h1 g (λe''=>hs.inj i id g hi hd e hg (by rw[e''];exact hb)))⟩
 .intro i e' size ver ds hi ho;have e:i≠id:=zk;rw[dC e]at ho;obtain⟨b',C,cur,e1,e2,e3,e4,e5,e6,e7,e8⟩:=hs.row i e' size ver ds hi ho;refine⟨b',C,cur,(hρ i).trans e1,?_,e3,e4,e5,e6,e7.mono nx,e8⟩;exact bu
 .intro i es hi ho;have e:i≠id:=zk;rw[dC e]at ho;obtain⟨b',ents,clock,e1,e2,e3,e4⟩:=hs.map i es hi ho;refine⟨b',ents,clock,(hρ i).trans e1,?_,e3.mono nx,e4.mono nx⟩;exact bu
 .intro i hi hm;have e:i≠id:=El;rw[dC e]at hm;obtain⟨b',e1,e2⟩:=hs.mark i hi hm;refine⟨b',(hρ i).trans e1,?_⟩;exact bu
 .intro i st fr ps asg bd hi hm;have e:i≠id:=El;rw[dC e]at hm;obtain⟨b',r,e1,e2,e3,e4,e5,e6,e7⟩:=hs.loop i st fr ps asg bd hi hm;refine⟨b',r,(hρ i).trans e1,?_,e3,e4,e5,e6.mono nx,e7⟩;exact bu
 .exact qj
 .intro i b' hi h5;rw[hρ]at h5;show b'<w'.heap.size
  rw[h0.2.2.2];exact hs.lt i b' hi h5
 .exact iq
 .intro a ha;exact hs.fresh a (by show c.w.heap.size<=a.block;rw[<-h0.2.2.2];exact ha)
theorem Nx.IK{w':World}{id n n' size:Nat}{e:TypeId}{v':Value}(hs:Sr c)(hd:c.D id)(hq:c.σ[id]?=some (.own e size n))(hfl:fl<=id)(hn:n<n')
  (h0:w'.os=c.w.os/\w'.tape=c.w.tape/\w'.output=c.w.output/\c.w.heap.size<=w'.heap.size)
  (h1:∀k,k<c.w.heap.size->aY (c.ρ id)≠some k->w'.heap[k]?=c.w.heap[k]?)
  (h2:∀(a:Addr) (u:Value),(∀b,aY (c.ρ id)=some b->a.block=b->a.off<n*size)->c.w.cell? a=some u->w'.cell? a=some u)
  (h3:aY v'=aY (c.ρ id)\/∀b,aY v'=some b->c.w.heap.size<=b) :
  Nx fl c (c.put w' id v' (.own e size n')):=by
 refine⟨rfl,h0.1,h0.2.1,h0.2.2.1,h0.2.2.2,Ck,?_,λ_ h=>h,λ_ h=>.inl h,?_,?_,?_,?_,?_,?_,?_,λi _ hi=>dC (λe=>hi Dl)⟩
 .intro a u ha hu;have hav:∀b,aY (c.ρ id)=some b->a.block=b->a.off<n*size:=ha.2 id _ hd hq;refine⟨⟨ha.1,λi o hi ho=>?_⟩,h2 a u hav hu⟩
  by_cases e':i=id
  .subst e';rw[eH (hs.bA i hd)]at ho;simp only[yAb]at ho;subst ho;rw[lT];intro b hb hab;rcases h3 with h3|h3
   .have:=hav b (by rw[<-h3];exact hb) hab;exact yBP this (yBK _ (yCh hn))
   .have:=h3 b hb;have:=yP hu;omega
  .rw[dC e']at ho;rw[fH e'];exact ha.2 i o hi ho
 .exact lp
 .exact mj
 .intro i e0 s m hi ho
  by_cases e':i=id
  .subst e';rw[hq]at ho;simp only[yAb,aB.own.injEq]at ho;obtain⟨rfl,rfl,rfl⟩:=ho;exact⟨n',eH (hs.bA i hd),yCh hn,λh=>ye⟩
  .exact⟨m,by rw[dC e'];exact ho,yAk _,λ_=>fH e'⟩
 .intro i e0 s v cs hi ho;have e':i≠id:=zk;exact⟨v,cs,by rw[dC e']at ho;exact ho,yAk _,λ_=>fH e'⟩
 .exact gl
 .intro k hk hx;exact h1 k hk (hx id hd hfl)
 .exact nh
theorem Sr.IK{w':World}{id n n' size:Nat}{e:TypeId}{v':Value}{xs:Fa}(hs:Sr c)(hd:c.D id)(hq:c.σ[id]?=some (.own e size n))(hn:n<n')
  (h0:w'.os=c.w.os/\w'.tape=c.w.tape/\w'.output=c.w.output/\c.w.heap.size<=w'.heap.size)
  (h1:∀k,k<c.w.heap.size->aY (c.ρ id)≠some k->w'.heap[k]?=c.w.heap[k]?)
  (h2:∀(a:Addr) (u:Value),(∀b,aY (c.ρ id)=some b->a.block=b->a.off<n*size)->c.w.cell? a=some u->w'.cell? a=some u)
  (h3:aY v'=aY (c.ρ id)\/∀b,aY v'=some b->c.w.heap.size<=b) (h4:w'.ownsRowF 0 e size v' n' xs) (h5:∀b,aY v'=some b->b<w'.heap.size) :
  Sr (c.put w' id v' (.own e size n')):=by
 have nx:Nx 0 c (c.put w' id v' (.own e size n')):=Nx.IK hs hd hq (yAF _) hn h0 h1 h2 h3;have hoth:∀i b,c.D i->i≠id->aY (c.ρ i)=some b->aY v'≠some b:=λi b hi hne hb hb'=>by
  exact jn
 refine⟨?_,?_,?_,?_,?_,?_,?_,?_,?_,?_,hs.jA.mono nx⟩
 .exact ve
 .intro i e0 s m hi ho
  by_cases e':i=id
  .subst e';rw[eH (hs.bA i hd)]at ho;simp only[yAb,aB.own.injEq]at ho;obtain⟨rfl,rfl,rfl⟩:=ho;rw[lT];exact⟨xs,h4⟩
  .rw[dC e']at ho;obtain⟨ys,hy⟩:=hs.own i e0 s m hi ho;rw[fH e'];exact⟨ys,AT hy (λg hg=>h1 g (hs.lt i g hi hg) (λh=>hs.inj i id g hi hd e' hg h))⟩
 .intro i e0 size' ver ds hi ho;have e':i≠id:=zk;rw[dC e']at ho;obtain⟨b',C,cur,e1,e2,e3,e4,e5,e6,e7,e8⟩:=hs.row i e0 size' ver ds hi ho;exact xh
 .exact uz
 .exact vh
 .exact uy
 .exact de
 .exact ju
 .exact iq
 .intro a ha;exact hs.fresh a (yAW h0.2.2.2 ha)
def aB.nc:aB->Prop
 |.box _=>False
 |.own _ _ _=>False
 |.row _ _ _ _=>False
 |_=>True
theorem Nx.tZ{id b:Nat}{o o':aB}{x x':Obj}(hs:Sr c)(hd:c.D id)(ho:c.σ[id]?=some o)(hn:o.nc)(hn':o'.nc)(hb:aY (c.ρ id)=some b)(hfl:fl<=id)
  (hx:c.w.heap[b]?=some x) (hxc:∀cs T fz,x≠.cells cs T fz) :
  Nx fl c (c.put (c.w.putObj b x') id (c.ρ id) o'):=by
 have hρ:∀i,(c.put (c.w.putObj b x') id (c.ρ id) o').ρ i=c.ρ i:=λi=>by
  exact ir
 refine⟨rfl,rfl,rfl,rfl,Ck,Ck,?_,λ_ h=>h,λ_ h=>.inl h,?_,?_,?_,?_,?_,?_,?_,λi _ hi=>dC (λe=>hi Dl)⟩
 .intro a u ha hu;have hne:a.block≠b:=by
   intro e;unfold World.cell? at hu;rw[e,hx]at hu;cases x<;>first|exact hxc _ _ _ rfl|(simp at hu)
  refine⟨⟨ha.1,λi oo hi hoo=>?_⟩,by show(c.w.putObj b x').cell? a=some u;rw[yCI (yCM hne)];exact hu⟩;rw[hρ]
  by_cases e:i=id
  .subst e;rw[eH (hs.bA i hd)]at hoo;simp only[yAb]at hoo;subst hoo;cases o'<;>first|exact hn'.elim|trivial
  .rw[dC e]at hoo;exact ha.2 i oo hi hoo
 .intro i p hi hp;have e:i≠id:=by rintro rfl;rw[ho]at hp;simp only[yAb]at hp;subst hp;exact hn
  exact⟨hρ i,p,by rw[dC e];exact hp⟩
 .intro i hi hni;refine⟨hρ i,?_⟩
  by_cases e:i=id
  .subst e;rw[eH (hs.bA i hd)];cases o'<;>first|exact hn'.elim|trivial
  .rw[dC e];exact hni
 .intro i e0 s n hi hi';have e:i≠id:=by rintro rfl;rw[ho]at hi';simp only[yAb]at hi';subst hi';exact hn
  exact⟨n,by rw[dC e];exact hi',yAk _,λ_=>hρ i⟩
 .intro i e0 s v cs hi hi';have e:i≠id:=by rintro rfl;rw[eH (hs.bA i hd)]at hi';simp only[yAb]at hi';subst hi';exact hn'
  exact⟨v,cs,by rw[dC e]at hi';exact hi',yAk _,λ_=>hρ i⟩
 .intro i b' hi hb' _;rw[hρ]at hb';exact⟨hi,hb'⟩
 .intro k _ hk;exact yCM (λe=>hk id hd hfl (by rw[e];exact hb))
 .exact nh
theorem Sr.tZ{id b:Nat}{o o':aB}{x x':Obj}(hs:Sr c)(hd:c.D id)(ho:c.σ[id]?=some o)(hn:o.nc)(hn':o'.nc)(hb:aY (c.ρ id)=some b)
  (hx:c.w.heap[b]?=some x) (hxc:∀cs T fz,x≠.cells cs T fz)
  (hfit:match o' with
   |.mark=>x'=.deferred (some [])/\c.ρ id=.pointer (some ⟨b,0,none⟩)
   |.map es=>(∃ents clock,x'=.map ents clock/\aS c (ents.toList.map MapEntry.key) (es.map Prod.fst)/\aS c (ents.toList.map MapEntry.val) (es.map Prod.snd))/\c.ρ id=.map (some b)
   |.loop st fr ps assign body=>c.ρ id=.pointer (some ⟨b,0,none⟩)/\∃r,x'=.loop r/\r.params=ps.toArray/\r.assign=assign/\r.body=body/\aS c r.tmps.toList fr/\st.fits r
   |_=>True):Sr (c.put (c.w.putObj b x') id (c.ρ id) o'):=by
 have nx:Nx 0 c (c.put (c.w.putObj b x') id (c.ρ id) o'):=Nx.tZ hs hd ho hn hn' hb (yAF _) hx hxc;have hρ:∀i,(c.put (c.w.putObj b x') id (c.ρ id) o').ρ i=c.ρ i:=λi=>by
  exact ir
 have hlt:b<c.w.heap.size:=fM hx;have hnew:(c.w.putObj b x').heap[b]?=some x':=World.putObj_heap_same hlt;refine⟨?_,?_,?_,?_,?_,?_,?_,?_,?_,?_,hs.jA.mono nx⟩
 .intro i p hi hp;have e:i≠id:=by
   rintro rfl
   rw[eH (hs.bA i hd)]at hp;simp only[yAb]at hp;subst hp;exact hn'
  rw[dC e]at hp;obtain⟨b',cs',T',e1,e2,e3,e4⟩:=hs.box i p hi hp;refine⟨b',cs',T',(hρ i).trans e1,?_,e3.mono nx,e4⟩;exact bl
 .intro i e0 s n hi hi';have e:i≠id:=by
   exact qh
  rw[dC e]at hi';obtain⟨xs,hx'⟩:=hs.own i e0 s n hi hi';rw[hρ];exact⟨xs,AT hx' (λg hg=>yCM (λe''=>hs.inj i id g hi hd e hg (by rw[e''];exact hb)))⟩
 .intro i e0 size ver ds hi hi';have e:i≠id:=by
   exact qh
  rw[dC e]at hi';obtain⟨b',C,cur,e1,e2,e3,e4,e5,e6,e7,e8⟩:=hs.row i e0 size ver ds hi hi';refine⟨b',C,cur,(hρ i).trans e1,?_,e3,e4,e5,e6,e7.mono nx,e8⟩;exact bl
 .intro i es hi hm
  by_cases e:i=id
  .subst e;rw[eH (hs.bA i hd)]at hm;simp only[yAb]at hm;subst hm;obtain⟨⟨ents,clock,e2,e3,e4⟩,e1⟩:=hfit;subst e2;exact⟨b,ents,clock,(hρ i).trans e1,hnew,e3.mono nx,e4.mono nx⟩
  .rw[dC e]at hm;obtain⟨b',ents,clock,e1,e2,e3,e4⟩:=hs.map i es hi hm;refine⟨b',ents,clock,(hρ i).trans e1,?_,e3.mono nx,e4.mono nx⟩;exact bl
 .intro i hi hm
  by_cases e:i=id
  .subst e;rw[eH (hs.bA i hd)]at hm;simp only[yAb]at hm;subst hm;obtain⟨hfit,hr⟩:=hfit;subst hfit;exact⟨b,(hρ i).trans hr,hnew⟩
  .rw[dC e]at hm;obtain⟨b',e1,e2⟩:=hs.mark i hi hm;refine⟨b',(hρ i).trans e1,?_⟩;exact bl
 .intro i st fr ps asg bd hi hm
  by_cases e:i=id
  .subst e;rw[eH (hs.bA i hd)]at hm;simp only[yAb]at hm;subst hm;obtain⟨hr,r,e2,e3,e4,e5,e6,e7⟩:=hfit;subst e2;exact⟨b,r,(hρ i).trans hr,hnew,e3,e4,e5,e6.mono nx,e7⟩
  .rw[dC e]at hm;obtain⟨b',r,e1,e2,e3,e4,e5,e6,e7⟩:=hs.loop i st fr ps asg bd hi hm;refine⟨b',r,(hρ i).trans e1,?_,e3,e4,e5,e6.mono nx,e7⟩;exact bl
 .exact qj
 .intro i b' hi h5;rw[hρ]at h5;show b'<(c.w.putObj b x').heap.size
  simpa using hs.lt i b' hi h5
 .exact iq
 .intro a ha;exact hs.fresh a (by simpa [Cx.put]using ha)
theorem Nx.putRow{w':World}{id size ver eX:Nat}{e:TypeId}{v':Value}{ds ds':Ey}(hs:Sr c)(hd:c.D id)(hq:c.σ[id]?=some (.row e size ver ds))(hfl:fl<=id)(hver:ver<=eX)(hsame:ver=eX->v'=c.ρ id)
  (h0:w'.os=c.w.os/\w'.tape=c.w.tape/\w'.output=c.w.output/\c.w.heap.size<=w'.heap.size)
  (h1:∀k,k<c.w.heap.size->aY (c.ρ id)≠some k->w'.heap[k]?=c.w.heap[k]?)
  (h3:aY v'=aY (c.ρ id)\/∀b,aY v'=some b->c.w.heap.size<=b) :
  Nx fl c (c.put w' id v' (.row e size eX ds')):=by
 refine⟨rfl,h0.1,h0.2.1,h0.2.2.1,h0.2.2.2,Ck,?_,λ_ h=>h,λ_ h=>.inl h,?_,?_,?_,?_,?_,?_,?_,λi _ hi=>dC (λe=>hi Dl)⟩
 .intro a u ha hu;have hne:∀b,aY (c.ρ id)=some b->a.block≠b:=ha.2 id _ hd hq;refine⟨⟨ha.1,λi o hi ho=>?_⟩,by
   show w'.cell? a=some u
   rw[yCI (h1 a.block (yP hu) (λh=>hne _ h rfl))];exact hu⟩
  by_cases e':i=id
  .subst e';rw[eH (hs.bA i hd)]at ho;simp only[yAb]at ho;subst ho;rw[lT];intro b hb hab;rcases h3 with h3|h3
   .exact hne b (by rw[<-h3];exact hb) hab
   .have:=h3 b hb;have:=yP hu;omega
  .rw[dC e']at ho;rw[fH e'];exact ha.2 i o hi ho
 .exact lp
 .exact mj
 .intro i e0 s m hi ho;have e':i≠id:=by rintro rfl;rw[hq]at ho;cases ho
  exact⟨m,by rw[dC e'];exact ho,yAk _,λ_=>fH e'⟩
 .intro i e0 s v cs hi ho
  by_cases e':i=id
  .subst e';rw[eH (hs.bA i hd)]at ho;simp only[yAb,aB.row.injEq]at ho;obtain⟨rfl,rfl,rfl,rfl⟩:=ho;exact⟨ver,ds,hq,hver,λh=>by rw[lT];exact hsame h⟩
  .exact⟨v,cs,by rw[dC e']at ho;exact ho,yAk _,λ_=>fH e'⟩
 .exact gl
 .intro k hk hx;exact h1 k hk (hx id hd hfl)
 .exact nh
theorem Sr.putRow{w':World}{id size ver eX:Nat}{e:TypeId}{v':Value}{ds ds':Ey}(hs:Sr c)(hd:c.D id)(hq:c.σ[id]?=some (.row e size ver ds))(hver:ver<=eX)(hsame:ver=eX->v'=c.ρ id)
  (h0:w'.os=c.w.os/\w'.tape=c.w.tape/\w'.output=c.w.output/\c.w.heap.size<=w'.heap.size)
  (h1:∀k,k<c.w.heap.size->aY (c.ρ id)≠some k->w'.heap[k]?=c.w.heap[k]?)
  (h3:aY v'=aY (c.ρ id)\/∀b,aY v'=some b->c.w.heap.size<=b)
  (h4:∃b C cur,v'=.slice (some ⟨b,0,none⟩) 0 C/\w'.heap[b]?=some (.cells cur e (0,0))/\cur.size=C*size/\C<=maxLen/\0<size/\ds'.length<=cur.size/\aS c (cur.toList.take ds'.length) ds'/\∀v∈cur.toList,v.oneCell'=true) :
  Sr (c.put w' id v' (.row e size eX ds')):=by
 have nx:Nx 0 c (c.put w' id v' (.row e size eX ds')):=Nx.putRow hs hd hq (yAF _) hver hsame h0 h1 h3;have h5:∀b,aY v'=some b->b<w'.heap.size:=λb hb=>by
  obtain⟨b',C,cur,rfl,h6,_⟩:=h4;simp only[aY,yAb]at hb;subst hb;exact fM h6
 have hoth:∀i b,c.D i->i≠id->aY (c.ρ i)=some b->aY v'≠some b:=λi b hi hne hb hb'=>by
  exact jn
 refine⟨?_,?_,?_,?_,?_,?_,?_,?_,?_,?_,hs.jA.mono nx⟩
 .exact ve
 .intro i e0 s n hi ho;have e':i≠id:=zk;rw[dC e']at ho;obtain⟨xs,hx⟩:=hs.own i e0 s n hi ho;rw[fH e'];exact⟨xs,AT hx (λg hg=>h1 g (hs.lt i g hi hg) (λh=>hs.inj i id g hi hd e' hg h))⟩
 .intro i e0 size' aHB ds0 hi ho
  by_cases e':i=id
  .subst e';rw[eH (hs.bA i hd)]at ho;simp only[yAb,aB.row.injEq]at ho;obtain⟨rfl,rfl,rfl,rfl⟩:=ho;obtain⟨b',C,cur,e1,e2,e3,e4,e5,e6,e7,e8⟩:=h4;exact⟨b',C,cur,lT.trans e1,e2,e3,e4,e5,e6,e7.mono nx,e8⟩
  .rw[dC e']at ho;obtain⟨b',C,cur,e1,e2,e3,e4,e5,e6,e7,e8⟩:=hs.row i e0 size' aHB ds0 hi ho;exact xh
 .exact uz
 .exact vh
 .exact uy
 .exact de
 .exact ju
 .exact iq
 .intro a ha;exact hs.fresh a (yAW h0.2.2.2 ha)
end
end
section
open Go.RowKit
section
variable{P:Program}{c:Cx}{fl:Nat}
theorem sM(b off j:Nat):(⟨b,off,none⟩:Addr).add j=⟨b,off+j,none⟩:=zg
theorem aHz{α:Type}(l vs:List α)(off dl:Nat)(h1:off+vs.length<=dl)(h2:dl<=l.length) :
  (l.take off++vs++l.drop (off+vs.length)).take dl=(l.take dl).take off++vs++(l.take dl).drop (off+vs.length):=by
 have e1:(l.take dl).take off=l.take off:=by rw[yCi];congr 1;omega
 have e2:(l.take off++vs).length=off+vs.length:=zf;rw[e1,List.take_append,e2,yAz (by rw[e2];omega),yDQ]
theorem aS.fill{cells vs:Fa}{z ws:Ey}(hz:aS c cells z)(hv:aS c vs ws)(h1:∀v∈vs,v.oneCell'=true)(off:Nat)(hle:off+ws.length<=z.length) :
  aS c (cells.take off++vs++cells.drop (off+vs.length)) (eC z off ws):=by
 have:=RT hz (v:=.agg vs.toArray) (p:=.agg ws) (.agg vs ws hv.1 h1 hv.2) off hle;simpa [Value.cells,PD.cells]using this
theorem aAd(hs:Sr c){id e size ver:Nat}{ds:Ey}(hd:c.D id)(hq:c.σ[id]?=some (.row e size ver ds)){b C:Nat}(hr:c.ρ id=.slice (some ⟨b,0,none⟩) 0 C){vs:Fa}{ws:Ey}(hv:aS c vs ws)
  (h1:∀v∈vs,v.oneCell'=true) {off:Nat} (hle:off+ws.length<=ds.length) (hfl:fl<=id) :
  ∃w',(storeCells ⟨b,off,none⟩ vs).run P c.w=.ok () w'/\Sr (c.put w' id (c.ρ id) (.row e size ver (eC ds off ws)))/\Nx fl c (c.put w' id (c.ρ id) (.row e size ver (eC ds off ws))):=by
 obtain⟨b',C',cur,e1,e2,e3,e4,e5,e6,e7,e8⟩:=hs.row id e size ver ds hd hq;rw[hr]at e1;simp only[yBM,yAb,yBJ,yBn,yCJ]at e1;obtain⟨rfl,rfl⟩:=e1;have hvl:vs.length=ws.length:=hv.1;have hst:=yCZ (P:=P) b off e vs 0 cur c.w e2 ye h1;simp only[yBt]at hst;refine⟨_,hst,?_,?_⟩
 .refine Sr.putRow hs hd hq (yAk _) (λ_=>rfl) ⟨rfl,rfl,rfl,yg⟩ (λk _ hk=>yBN _ _ _ _ (λh=>hk (by rw[hr,h];rfl))) (.inl rfl)
   ⟨b,C,_,hr,yBU _ _ cur _ e (0,0) e2,?_,e4,e5,?_,?_,?_⟩
  .simp;omega
  .simp[eC];omega
  .have hpl:(eC ds off ws).length=ds.length:=by simp[eC];omega
   rw[hpl];show aS c (List.take ds.length (cur.toList.take off++vs++cur.toList.drop (off+vs.length))) _
   rw[aHz _ _ _ _ ye (by simpa using e6)];exact e7.fill hv h1 off hle
  .exact MI e8 h1 off (off+vs.length)
 .exact Nx.putRow hs hd hq hfl (yAk _) (λ_=>rfl) ⟨rfl,rfl,rfl,yg⟩ (λk _ hk=>yBN _ _ _ _ (λh=>hk (by rw[hr,h];rfl))) (.inl rfl)
end
end
section
open Go.RowKit
section
variable{P:Program}{c:Cx}{fl:Nat}
def Leaves(fl:Nat)(c:Cx)(p:PD)(σ':List aB)(v:Value)(w':World):Prop:=
 ∃c',c'.w=w'/\c'.σ=σ'/\Sr c'/\Nx fl c c'/\VR c' v p/\∀id,c'.D id->c.D id\/(c.σ.length<=id/\id<σ'.length)
theorem AV{w:World}{a:Addr}{cs:Fa}{n:Nat}(hn:cs.length=n)(h:∀(j:Nat) (v:Value),cs[j]?=some v->w.cell? (a.add j)=some v) :
  (loadCells a n).run P w=.ok cs.toArray w:=by
 subst hn;exact run_loadCells_list w a cs h
theorem RO{w:World}{ad:Addr}{dT:Fa}{ds:Ey}(hl:aS c dT ds)(h1:∀v∈dT,v.oneCell'=true)(hc:∀(j:Nat) (v:Value),dT[j]?=some v->w.cell? (ad.add j)=some v)
  {t:TypeId} {off:Nat} {p:PD} (h:mT P t ds off=some p):∃v,(loadVar t (ad.add off)).run P w=.ok v w/\VR c v p:=by
 unfold mT at h;split at h
 .rename_i n ha hs;split at h
  .rename_i hle;simp only[yAb]at h;subst h;have hlen:((dT.drop off).take n).length=n:=by have:=hl.1;simp;omega
   refine⟨.agg ((dT.drop off).take n).toArray,?_,?_⟩
   .have:=AV (P:=P) (w:=w) (a:=ad.add off) hlen (λj v hv=>by
     rw[yAv]at hv;split at hv
     .rw[yBl]at hv;rw[CI];exact hc _ v hv
     .simp at hv)
    simp[loadVar,MO ha,mI hs,this]
   .have h2:=hl.take_drop off n;exact .agg _ _ h2.1 (λv hv=>h1 v (yBg (yAy hv))) h2.2
  .exact af
 .rename_i n ha hs;obtain⟨v,hv,hr⟩:=hl.get h;exact⟨v,by simp[loadVar,MO ha,hc _ v hv],hr⟩
 .exact af
theorem ZN(hs:Sr c){t:TypeId}{a p:PD}(h:oM P c.σ t a=some p){va:Value}(ha:VR c va a):∃v,(Instr.loadAt t va).run P c.w=.ok v c.w/\VR c v p:=by
 unfold oM at h;split at h
 .rename_i id off;split at h
  .rename_i q hq;obtain⟨b,rfl,hd,_,hr⟩:=ha.sI;obtain⟨b',cs,T,e1,e2,e3,e4⟩:=hs.box id q hd hq;rw[hr]at e1;simp only[yCK,yAb,yBJ,yBn]at e1;subst e1;have hadd:∀j,(⟨b,0,none⟩:Addr).add j=⟨b,j,none⟩:=λj=>zg
   obtain⟨v,r,q⟩:=RO (P:=P) (w:=c.w) (ad:=⟨b,0,none⟩) e3 e4.1 (λj v hv=>by
    rw[hadd];simp only[World.cell?,e2];simpa using hv) h
   rw[hadd]at r;exact lq
  .exact af
 .rename_i cs off;obtain⟨ad,dT,rfl,h1,h2,h3⟩:=ha.FG;obtain⟨v,r,q⟩:=RO (P:=P) (w:=c.w) h1 h2 (λj v hv=>(h3 j v hv).1) h;exact lq
 .rename_i id ver off;split at h
  .rename_i e sz eX cs hq;split at h
   .rename_i hver;subst hver;obtain⟨b,rfl,hp⟩:=ha.FA;obtain⟨C,hr⟩:=(hp.2 e sz _ cs hq).2 rfl;obtain⟨b',C',cur,e1,e2,e3,e4,e5,e6,e7,e8⟩:=hs.row id e sz _ cs hp.1 hq;rw[hr]at e1;simp only[yBM,yAb,yBJ,yBn,yCJ]at e1;obtain⟨rfl,rfl⟩:=e1;obtain⟨v,r,q⟩:=RO (P:=P) (w:=c.w) (ad:=⟨b,0,none⟩) e7 (λv hv=>e8 v (yAy hv)) (λj v hv=>by
     rw[sM];simp only[World.cell?,e2];rw[yAv]at hv;split at hv
     .simpa using hv
     .cases hv) h
    rw[sM]at r;simp only[yAp]at r;exact lq
   .cases h
  .cases h
 .exact af
theorem wV(w:World)(o:Obj):w.grownBy (w.alloc o) none:=World.grownBy_alloc w o none
theorem aHv{c:Cx}{v:Value}{p:PD}(h:tU v=some p):VR c v (u5 p):=by
 by_cases hp:p=.slice 0 [] .full
 .subst hp;have hv:v=.slice none 0 0:=by
   unfold tU at h;split at h<;>first|rfl|(simp at h;done)
  subst hv;exact .slice none 0 0 0 [] .nil [] rfl (yAk _) (by simp[maxLen]) yg rfl yg yg yg ⟨rfl,rfl,rfl⟩
 .have:u5 p=p:=by
   unfold u5;split
   .exact absurd rfl hp
   .rfl
  rw[this];exact(RQ h).1
theorem aAr{c:Cx}:∀ {vs:Fa} {ps:Ey},tV vs=some ps->aS c vs (ps.map u5)
 | [],ps,h=>by simp[tV]at h;subst h;exact⟨rfl,yg⟩
 |v::vs,ps,h=>by
  unfold tV at h;cases h1:tU v with
  |none=>simp[h1]at h
  |some p=>
   cases h2:tV vs with
   |none=>simp[h1,h2]at h
   |some qs=>
    simp[h1,h2]at h;subst h;have a1:=aHv (c:=c) h1;obtain⟨b1,b2⟩:=aAr (c:=c) h2;refine⟨by simpa using b1,λi v' d hv hd=>?_⟩;exact jm
theorem aHw{c:Cx}{v:Value}{p:PD}(t:TypeId)(h:ofValue v=some p):aS c v.cells.toList (boxed t p).cells:=by
 have h0:=(RR (c:=c) h).cells;cases p with
 |agg cs=>
  show aS c _ (if LW t=true then PD.typed t (cs.map u5)else PD.agg cs).cells
  by_cases ht:LW t=true
  .rw[yAJ ht];unfold ofValue at h;split at h
   .split at h
    .rename_i ps hps;simp only[yAb,PD.agg.injEq]at h;subst h;exact aAr hps
    .exact af
   .split at h<;>simp at h
   .unfold tU at h;split at h<;>simp at h
  .rw[yAI ht];exact h0
 |_=>exact h0
theorem L7{t:TypeId}{p:PD}(h:eE P t=some p){v:Value}{i:TypeInfo}(hi:P.info? t=some i)(hz:i.zero=some v)(t':TypeId):aS c v.cells.toList (boxed t' p).cells:=by
 unfold eE at h;rw[hi]at h;simp only[hz]at h;exact aHw t' h
theorem VR.aGR{c:Cx}{v:Value}{t:TypeId}{ds:Ey}(h:VR c v (.typed t ds)):False:=yw
theorem L8{c:Cx}{T t:TypeId}{p:PD}{v:Value}{ds:Ey}(hv:VR c v p)(h:boxed T p=.typed t ds):T=t:=by
 unfold boxed at h;split at h
 .split at h
  .simp only[PD.typed.injEq]at h;exact h.1
  .cases h
 .subst h;cases hv
theorem Q2(hs:Sr c){p:PD}{v:Value}(hcv:aS c v.cells.toList p.cells)(h1:∀u∈v.cells.toList,u.oneCell'=true)(T:TypeId)(hT:∀t ds,p=.typed t ds->T=t) :
  (newVar T v).run P c.w=.ok ⟨c.w.heap.size,0,none⟩ (c.w.alloc (.cells v.cells T)) /\
  Leaves fl c (.ptr c.σ.length 0) (c.σ++[.box p]) (.pointer (some ⟨c.w.heap.size,0,none⟩)) (c.w.alloc (.cells v.cells T)):=by
 refine⟨by simp[newVar,newRow],c.push (c.w.alloc (.cells v.cells T)) (.pointer (some ⟨c.w.heap.size,0,none⟩)) (.box p),rfl,rfl,?_,?_,?_,?_⟩
 .refine Sr.push hs (wV _ _) (λb hb=>?_) ⟨_,v.cells,T,rfl,yBW _ _,hcv,h1,hT⟩;simp[aY]at hb;subst hb;simp
 .refine Nx.push hs (wV _ _) (λb hb=>?_);simp[aY]at hb;subst hb;exact yAk _
 .exact .ptr _ _ _ (.inr rfl) ⟨p,gC.1⟩ gC.2.1
 .exact bx
theorem aHx{q q':PD}{off:Nat}{new:Ey}(h:q.setCells off new=some q')(hn:new.all PD.plain=true):off+new.length<=q.cells.length/\q'.cells=eC q.cells off new:=by
 unfold PD.setCells at h;split at h
 .split at h
  .exact ug
  .exact af
 .split at h
  .exact ug
  .exact af
 .rename_i hne MP;split at h
  .rename_i h0;subst h0;split at h
   .rename_i r;simp only[yAb]at h;subst h;have hq:q.cells=[q]:=by cases q<;>first|rfl|(exact(hne _ rfl).elim)|(exact(MP _ _ rfl).elim)
    have hr:r.cells=[r]:=by
     have:r.plain=true:=Cj;cases r<;>first|rfl|(simp[PD.plain]at this)
    rw[hq,hr];exact⟨yg,by simp[eC]⟩
   .exact af
  .exact af
theorem aHy{q q':PD}{off:Nat}{new:Ey}(h:q.setCells off new=some q')(hn:new.all PD.plain=true){t:TypeId}{ds:Ey}(e:q'=.typed t ds):∃ds',q=.typed t ds':=by
 subst e;unfold PD.setCells at h;split at h
 .split at h<;>simp at h
 .split at h
  .simp only[yAb,PD.typed.injEq]at h;obtain⟨rfl,_⟩:=h;exact⟨_,rfl⟩
  .exact af
 .split at h
  .split at h
   .simp only[yAb]at h;subst h;simp[PD.plain]at hn
   .exact af
  .exact af
theorem aGQ(hs:Sr c){t:TypeId}{a p:PD}{σ':Ex}(h:pH P fl c.σ t a p=some σ'){va v:Value}(ha:VR c va a)(hv:VR c v p) :
  ∃w',(Instr.storeAt t va v).run P c.w=.ok () w'/\Leaves fl c (.aP []) σ' undef w':=by
 unfold pH at h;split at h
 .rename_i id off;split at h
  .rename_i hfl;split at h
   .rename_i q n hq hn;split at h
    .rename_i hp;split at h
     .rename_i q' cK;simp only[yAb]at h;subst h;obtain⟨b,rfl,hd,_,hr⟩:=ha.sI;obtain⟨b',cs,T,e1,e2,e3,e4⟩:=hs.box id q hd hq;rw[hr]at e1;simp only[yCK,yAb,yBJ,yBn]at e1;subst e1;obtain⟨hle,hcq⟩:=aHx cK hp.2;have hvc:=hv.cells;have qQ:=aS.wW hvc hp.2;have hvl:v.cells.toList.length=n:=by rw[hvc.1];exact hp.1
      have hcl:cs.toList.length=q.cells.length:=e3.1;have hst:=yCZ (P:=P) b off T v.cells.toList 0 cs c.w e2 (by have:=hvc.1;simp at hcl ⊢;simp at this;omega) qQ;simp only[yBt]at hst;refine⟨_,?_,c.put (c.w.setRow b (cs.toList.take off++v.cells.toList++cs.toList.drop (off+v.cells.toList.length)).toArray) id (c.ρ id) (.box q'),rfl,rfl,?_,?_,IH _,λi hi=>.inl hi⟩
      .have hsz:v.cells.size=n:=by simpa using hvl
       exact mm
      .refine Sr.FH (T:=T) hs hd hq hr ⟨rfl,rfl,rfl,yg⟩ (λk hk=>yBN _ _ _ _ hk) (yBU _ _ cs _ T (0,0) e2) ?_ ?_
       .rw[hcq];have:=RT e3 hv off (by rw[hvc.1]at hvl;omega);exact bq
       .refine⟨by have:=MI e4.1 qQ off (off+v.cells.toList.length);simpa using this,λt ds e=>?_⟩;exact e4.2 t _ (aHy cK hp.2 e).choose_spec
      .exact Nx.FH hs hd hq hr hfl ⟨rfl,rfl,rfl,yg⟩ (λk hk=>yBN _ _ _ _ hk)
     .exact af
    .exact af
   .exact af
  .exact af
 .rename_i id ver off;split at h
  .rename_i hfl;split at h
   .rename_i e sz eX cs n hq hn;split at h
    .rename_i hc;obtain⟨rfl,hpl,hpp,hle⟩:=hc;simp only[yAb]at h;subst h;obtain⟨b,rfl,hp⟩:=ha.FA;obtain⟨C,hr⟩:=(hp.2 e sz _ cs hq).2 rfl;have hvc:=hv.cells;obtain⟨w',hst,hs',hn'⟩:=aAd (P:=P) (fl:=fl) hs hp.1 hq hr hvc (aS.wW hvc hpp) (off:=off) ye hfl;have hsz:v.cells.size=n:=by have:=hvc.1;simp at this;omega
     refine⟨w',?_,_,rfl,rfl,hs',hn',IH _,λi hi=>.inl hi⟩;exact mm
    .exact af
   .exact af
  .exact af
 .exact af
end
end
section
open Go.RowKit
section
variable{P:Program}{c:Cx}{fl:Nat}
theorem aAl{c':Cx}{e:TypeId}{size n m:Nat}{v':Value}{xs ys:Ey}{flx fly:Fa}{tok:Tok}(hnx:n=xs.length)(hmy:m=ys.length)(hpos:0<n+m)
  (hx:∀x∈xs,x.cells.length=size) (hy:∀x∈ys,x.cells.length=size) (hlx:flx.length=n*size)
  (H8:∀v∈flx,v.oneCell'=true) (RC:∀v∈fly,v.oneCell'=true)
  (hrx:∀(j:Nat) (v:Value) (d:PD),flx[j]?=some v->(xs.flatMap PD.cells)[j]?=some d->VR c' v d)
  (hry:∀(j:Nat) (v:Value) (d:PD),fly[j]?=some v->(ys.flatMap PD.cells)[j]?=some d->VR c' v d)
  (hown:c'.w.ownsRowF 0 e size v' (n+m) (flx++fly))
  (hav:∀g j,aY v'=some g->j<(n+m)*size->c'.av ⟨g,j,none⟩)
  (htok:∀cap,v'=.slice (match v' with|.slice A _ _=>A|_=>none) (n+m) cap->qP c' size (n+m) cap v' tok) :
  VR c' v' (.slice size (xs++ys) tok):=by
 rcases hown.2 with⟨rfl,h0⟩ | ⟨g,cap,cur,fz,rfl,_,hg,_,hnc,hcm,hcs,htake⟩
 .omega
 .have hlen:(flx++fly).length=(n+m)*size:=hown.1;have hle:(n+m)*size<=cur.toList.length:=by simp[hcs];exact yBK _ hnc
  refine .slice _ (n+m) cap size (xs++ys) tok (flx++fly) (by simp[hnx,hmy]) hnc hcm ?_ hlen ?_ ?_ ?_ (htok cap rfl)
  .intro x hx';rcases yBf.1 hx' with h|h
   .exact hx x h
   .exact hy x h
  .intro v hv;rcases yBf.1 hv with h|h
   .exact H8 v h
   .exact RC v h
  .intro j v hv;have hj:j<(n+m)*size:=by rw[<-hlen];exact(yA.1 hv).1
   refine⟨⟨g,0,none⟩,rfl,?_,?_⟩
   .have hadd:(⟨g,0,none⟩:Addr).add j=⟨g,j,none⟩:=by unfold Addr.add;split<;>simp_all
    rw[hadd];rw[<-htake,yAv,yAJ hj]at hv;simp only[World.cell?,hg];simpa using hv
   .have hadd:(⟨g,0,none⟩:Addr).add j=⟨g,j,none⟩:=by unfold Addr.add;split<;>simp_all
    rw[hadd];exact hav g j rfl hj
  .intro j v d hv hd;rw[yEc]at hd;have hfx:(xs.flatMap PD.cells).length=flx.length:=by rw[CZ xs hx,hlx,hnx]
   rw[yDb]at hv hd
   by_cases h:j<flx.length
   .rw[yAJ h]at hv;rw[yAJ (by rw[hfx];exact h)]at hd;exact hrx j v d hv hd
   .rw[yAI h]at hv;rw[yAI (by rw[hfx];exact h),hfx]at hd;exact hry _ v d hv hd
theorem II{c':Cx}{a:Addr}(hX:c'.X a)(h:∀id o,c'.D id->c'.σ[id]?=some o->aY (c'.ρ id)=some a.block->∃e size n,o=.own e size n/\a.off<n*size):c'.av a:=by
 refine⟨hX,λid o hd ho=>?_⟩;cases o with
 |none=>trivial
 |box p=>
  intro b hb hab;obtain⟨_,_,_,e,_⟩:=h id _ hd ho (by rw[hb,hab]);cases e
 |own e size n=>
  intro b hb hab;obtain⟨_,_,_,e',hlt⟩:=h id _ hd ho (by rw[hb,hab]);cases e';exact hlt
 |row e size ver ds=>
  intro b hb hab;obtain⟨_,_,_,e',_⟩:=h id _ hd ho (by rw[hb,hab]);cases e'
 |map es=>trivial
 |mark=>trivial
 |loop st fr ps asg bd=>trivial
theorem RI{w:World}{e:TypeId}{size n:Nat}{v:Value}{xs:Fa}(h:w.ownsRowF 0 e size v n xs){b:Nat}(hb:aY v=some b):b<w.heap.size:=by
 rcases h.2 with⟨rfl,_⟩ | ⟨g,cap,cur,fz,rfl,_,hg,_⟩
 .simp[aY]at hb
 .simp[aY]at hb;subst hb;exact fM hg
def Xw(fl:Nat)(c:Cx):Prop:=∀id g,c.D id->fl<=id->aY (c.ρ id)=some g->∀a:Addr,a.block=g->c.X a
theorem Xw.next{c':Cx}(h:Xw fl c)(hs:Sr c)(nx:Nx fl c c'):Xw fl c':=by
 intro id g hd hf hb a ha;rw[nx.X];rcases yCe g c.w.heap.size with hlt|hge
 .obtain⟨q1,q2⟩:=nx.back id g hd hb hlt;exact h id g q1 hf q2 a ha
 .exact hs.fresh a ye
theorem aHk{w:World}{e:TypeId}{size n cap:Nat}{A:Option Addr}{IJ flx:Fa}(h:w.ownsRowF 0 e size (.slice A n cap) n IJ)(hl:flx.length=n*size)
  (hc:∀(j:Nat) (v:Value),flx[j]?=some v->∃ad,A=some ad/\w.cell? (ad.add j)=some v):flx=IJ:=by
 apply yCp;intro j;rcases h.2 with⟨hv,h0⟩ | ⟨g,cap',cur,fz,hv,_,hg,_,hnc,_,hcs,htake⟩
 .have e1:flx=[]:=yAf (by rw[hl,h0];simp);have e2:IJ=[]:=yAf (by rw[h.1,h0];simp);rw[e1,e2]
 .simp only[yBM]at hv;obtain⟨rfl,_,rfl⟩:=hv
  by_cases hj:j<n*size
  .have hj':j<flx.length:=by rw[hl];exact hj
   obtain⟨ad,e,hcell⟩:=hc j flx[j] (by simp[hj']);cases e;have hadd:(⟨g,0,none⟩:Addr).add j=⟨g,j,none⟩:=zg;rw[hadd]at hcell;simp only[World.cell?,hg]at hcell;rw[<-htake,yAv,yAJ hj];rw[yAh hj'];simpa using hcell.symm
  .rw[yBF (by rw[hl];omega),yBF (by rw[h.1];omega)]
structure Src (P:Program) (w:World) (t u ty e:TypeId) (i:TypeInfo) (vx:Value) (m:Nat) (fly:List Value):Prop where
 none_:m=0->∀(A:Option Addr) (n cap:Nat),n<=cap->(Builtin.append_ #[t,u] ty #[.slice A n cap,vx]).run P w=.ok (.slice A n cap) w
 grow:0<m->∀(A:Option Addr) (n cap:Nat) (flx:List Value),(A=none->n=0/\cap=0)->flx.length=n*i.size->(∀(j:Nat) (v:Value),flx[j]?=some v->∃ad,A=some ad/\w.cell? (ad.add j)=some v) ->
  cap<n+m->n+m<=maxLen->(n+m)*i.bytes<=140737488355328 ->
  ∃v' w',(Builtin.append_ #[t,u] ty #[.slice A n cap,vx]).run P w=.ok v' w'/\w'.ownsRowF 0 e i.size v' (n+m) (flx++fly)/\w.grownBy w' none/\∀b,aY v'=some b->w.heap.size<=b
 spare:∀(g n cap:Nat) (flx:List Value),w.ownsRowF 0 e i.size (.slice (some ⟨g,0,none⟩) n cap) n flx->n+m<=cap ->
  ∃w',(Builtin.append_ #[t,u] ty #[.slice (some ⟨g,0,none⟩) n cap,vx]).run P w=.ok (.slice (some ⟨g,0,none⟩) (n+m) cap) w' /\
   w'.ownsRowF 0 e i.size (.slice (some ⟨g,0,none⟩) (n+m) cap) (n+m) (flx++fly)/\w.grownBy w' (some g)
theorem aAm{w:World}{b:Nat}{e:TypeId}{size n:Nat}{v:Value}{xs:Fa}(h:w.ownsRow b e size v n xs):w.ownsRowF 0 e size v n xs:=
 ⟨h.1,h.2.imp (λq=>q) (λ⟨g,cp,cur,q1,_,q2,q3⟩=>⟨g,cp,cur,(0,0),q1,yAF _,q2,yAF _,q3⟩)⟩
theorem aAn{w:World}{b:Nat}{e:TypeId}{size n:Nat}{v:Value}{xs:Fa}(h:w.ownsRow b e size v n xs):∀k,aY v=some k->b<=k:=by
 intro k hb;rcases h.2 with⟨rfl,_⟩ | ⟨g,cp,cur,rfl,hge,_⟩
 .simp[aY]at hb
 .simp[aY]at hb;omega
theorem aHl{w:World}{b:Nat}{e:TypeId}{size n:Nat}{v:Value}{xs:Fa}(h:w.ownsRowF b e size v n xs):∀k,aY v=some k->b<=k:=by
 intro k hb;rcases h.2 with⟨rfl,_⟩ | ⟨g,cp,cur,fz,rfl,hge,_⟩
 .simp[aY]at hb
 .simp[aY]at hb;omega
theorem aHm{w:World}{b:Nat}{e:TypeId}{size n:Nat}{v:Value}{xs:Fa}(h:w.ownsRowF b e size v n xs):w.ownsRowF 0 e size v n xs:=
 ⟨h.1,h.2.imp (λq=>q) (λ⟨g,cp,cur,fz,q1,_,q2⟩=>⟨g,cp,cur,fz,q1,yAF _,q2⟩)⟩
theorem aHn{w:World}{t ty e:TypeId}{i:TypeInfo}{z:Value}(hu:P.underlying t=some (.slice e))(hi:P.info? e=some i)(hz:i.zero=some z)(hzs:z.cells.size=i.size)(hpos:0<i.size){B:Option Addr}{m c':Nat}{fly:Fa}
  (hl:fly.length=m*i.size) (h1:∀v∈fly,v.oneCell'=true) (hb:∀(j:Nat) (v:Value),fly[j]?=some v->∃ad,B=some ad/\w.cell? (ad.add j)=some v):Src P w t t ty e i (.slice B m c') m fly where
 none_:=λh0 A n cap hn=>by
  subst h0;have hfy:(Builtin.firstCells i.size 0 (.slice B 0 c')).run P w=.ok #[] w:=by
   cases B<;>simp[Builtin.firstCells,loadCells,loadCellsFrom]
  exact oq
 grow:=λhm A n cap flx hA hlx hc hcap hmax hby=>by
  have RD:0<fly.length:=by rw[hl];exact yCX hm hpos
  obtain⟨bd,rfl,_⟩:=hb 0 fly[0] (by simp[RD]);have hnews:∀(j:Nat) (u:Value),fly[j]?=some u->w.cell? (bd.add j)=some u:=λj u hj=>by
   obtain⟨ad,e',h9⟩:=hb j u hj;exact ji
  cases A with
  |none=>
   obtain⟨rfl,rfl⟩:=hA rfl;have H9:flx=[]:=yAf (by rw[hlx];simp);subst H9;obtain⟨v',w',r,h2,h3,h4,h5⟩:=run_append_own_at (P:=P) w w.heap.size t ty e i z i.size i.bytes hu hi hz rfl rfl hzs hpos (.slice none 0 0) 0 [] (World.ownsRow_nil _ _ _ _)
    bd m c' fly hl hnews h1 ye (by simpa using hby) (yAk _)
   exact⟨v',w',r,aAm h2,h3,aAn h2⟩
  |some ad=>
   have holds:∀(j:Nat) (u:Value),flx[j]?=some u->w.cell? (ad.add j)=some u:=λj u hj=>by
    obtain⟨IA,e',h9⟩:=hc j u hj;exact ji
   obtain⟨v',w',r,h2,h3⟩:=run_append_arg_grows (P:=P) w t ty e i z i.size i.bytes hu hi hz rfl rfl hzs hpos ad n cap flx hlx holds bd m c' fly hl hnews hcap hmax hby;exact⟨v',w',r,aAm h2,h3,aAn h2⟩
 spare:=λg n cap flx hown hroom=>by
  rcases hown.2 with⟨h0,_⟩ | ⟨g',cap',cur,fz,hv,hbg,hg,hfz,hnc,hcm,hcs,htake⟩
  .cases h0
  .cases hv;have hlen:(flx++fly).length=(n+m)*i.size:=by rw[yAa,hown.1,hl,yBu]
   have hfit:n*i.size+fly.length<=cur.size:=by rw[hl,hcs,<-yBu];exact yBK _ hroom
   have hst:=run_storeCells_atF P g (n*i.size) e fz fly 0 cur w hg (by simpa using hfz) (by simpa using hfit) h1;simp only[yBt]at hst;have hf:(Builtin.firstCells i.size m (.slice B m c')).run P w=.ok fly.toArray w:=by
    cases B with
    |none=>
     have:fly=[]:=by
      cases fly with
      |nil=>rfl
      |cons x xs=>obtain⟨_,e',_⟩:=hb 0 x rfl;cases e'
     exact ou
    |some bd=>
     simp only[Builtin.firstCells];exact AV hl λj v hj=>by
      obtain⟨ad,e',h9⟩:=hb j v hj;exact ji
   have hr:(Builtin.append_ #[t,t] ty #[.slice (some ⟨g,0,none⟩) n cap,.slice B m c']).run P w =
     .ok (.slice (some ⟨g,0,none⟩) (n+m) cap) (w.setRow g (cur.toList.take (n*i.size)++fly++cur.toList.drop (n*i.size+fly.length)).toArray):=by
    simp[Builtin.append_,yAM hu,sizeOf,typeInfo,hi,Builtin.lenOf,hroom,hf,Addr.add_lit,hst]
   refine⟨_,hr,⟨hlen,.inr ⟨g,cap,_,fz,rfl,hbg,yBU w g cur _ e _ hg,?_,hroom,hcm,?_,?_⟩⟩,⟨rfl,rfl,rfl,yg,λk _ hk=>yBN w g k _ (λe=>hk (by simp[e]))⟩⟩
   .exact yAW hfz (yBK _ ye)
   .simp only[yCq,yAa,yAt,yBd,yBi];omega
   .rw[htake,<-hlen];exact yCr
theorem aHo{w:World}{t u ty e:TypeId}{i:TypeInfo}(hu:P.underlying t=some (.slice e))(hs:P.underlying u=some .string)(hi:P.info? e=some i)(hz:i.zero=some (.int .u8 0))(hsz:i.size=1)(hby:i.bytes=1)(l:List UInt8) :
  Src P w t u ty e i (.string ⟨l.toArray⟩) l.length (l.map λb=>.int .u8 b.toNat):=by
 have hsl:(ByteArray.mk l.toArray).size=l.length:=Cr;have hcl:Lib.strCells ⟨l.toArray⟩=l.map λb=>Value.int .u8 b.toNat:=by simp[Lib.strCells]
 refine⟨λh0 A n cap hn=>?_,λhm A n cap flx hA hlx hc hcap hmax hb=>?_,λg n cap flx hown hroom=>?_⟩
 .have:l=[]:=yAf h0;subst this;have hfy:(Builtin.firstCells i.size 0 (.string ⟨#[]⟩)).run P w=.ok #[] w:=by simp[Builtin.firstCells]
  have hl0:(ByteArray.mk (#[]:Array UInt8)).size=0:=rfl;cases A<;>simp[Builtin.append_,yAM hu,yAM hs,sizeOf,typeInfo,hi,Builtin.lenOf,hl0,hfy,hn,storeCells]
 .cases A with
  |none=>
   obtain⟨rfl,rfl⟩:=hA rfl;have H9:flx=[]:=yAf (by rw[hlx];simp);subst H9;obtain⟨v',w',r,h2,h3,_⟩:=Lib.run_append_own_stringF (P:=P) w w.heap.size t u ty e i hu hs hi hz hsz hby (.slice none 0 0) 0 [] (World.ownsRowF_nil _ _ _ _) ⟨l.toArray⟩ ye (by rw[hsl];rw[hby]at hb;omega) (yAk _);rw[hsl,hcl]at h2;rw[hsz];exact⟨v',w',r,aHm h2,h3,aHl h2⟩
  |some ad=>
   have holds:∀(j:Nat) (u:Value),flx[j]?=some u->w.cell? (ad.add j)=some u:=λj u hj=>by
    obtain⟨IA,e',h9⟩:=hc j u hj;exact ji
   have hr:=Lib.run_append_grow_string (P:=P) w t u ty e i (.int .u8 0) hu hs hi hz ad n cap flx hlx holds ⟨l.toArray⟩ ye (by rw[hsl];simp only[maxLen]at hmax;omega) (by rw[hby,hsl];exact growslice_fits ye (by rw[hby]at hb;omega));rw[hsl]at hr;have hge:=yDs w (n+l.length) cap e;have aHp:grownCap w (n+l.length) cap e<=maxLen:=yDN w (n+l.length) cap e hmax;refine⟨_,_,hr,⟨by simp[hlx,hsz],.inr ⟨w.heap.size,_,_,(0,0),rfl,yAF _,yBW w.drew _,yAF _,hge,aHp,?_,?_⟩⟩,⟨rfl,rfl,rfl,yg,λk hk _=>yDt w.drew _ hk⟩,λb hb'=>by simp[aY]at hb';omega⟩
   .have hz1:(Value.int IntKind.u8 0).cells.size=1:=rfl;rw[hsz]at hlx;simp only[yDP,yCq,yDu,hz1,hlx,hcl,yAe,hsz];omega
   .rw[hcl,hsz];simp only[yDO,yAi];rw[<-yAi];have:(n+l.length)*1=(flx++l.map λb=>Value.int .u8 b.toNat).length:=by rw[yAa,hlx,hsz,yAe];omega
    rw[this];exact yCr
 .rcases hown.2 with⟨h0,_⟩ | ⟨g',cap',cur,fz,hv,hbg,hg,hfz,hnc,hcm,hcs,htake⟩
  .cases h0
  .cases hv;rw[hsz]at hown hfz hcs htake;have hxl:flx.length=n:=by simpa using hown.1
   have hr:=Lib.run_append_room_stringF (P:=P) w t u ty e i hu hs hi hsz g n cap cur fz hg (by simpa using hfz) ⟨l.toArray⟩ (by rw[hsl];exact hroom) (by rw[hsl];omega);rw[hsl,hcl]at hr;have hlen:(flx++l.map λb=>Value.int .u8 b.toNat).length=(n+l.length)*1:=by rw[yAa,hxl,yAe,yDc]
   rw[hsz];refine⟨_,hr,⟨hlen,.inr ⟨g,cap,_,fz,rfl,hbg,yBU w g cur _ e _ hg,ye,hroom,hcm,?_,?_⟩⟩,⟨rfl,rfl,rfl,yg,λk _ hk=>yBN w g k _ (λe=>hk (by simp[e]))⟩⟩
   .simp only[yCq,yAa,yAt,yBd,yBi,yAe];omega
   .have ht':cur.toList.take n=flx:=by simpa using htake
    rw[ht',<-hlen];exact yCr
theorem aAo(hs:Sr c)(hX:Xw fl c){t u ty:TypeId}{s p:PD}{sz':Nat}{ys:Ey}{fG:Tok}{σ':Ex}(hnn:∀n xs,s≠.slice n xs .nil)(h:fA P fl c.σ t s (.slice sz' ys fG)=some (p,σ')){vs vx:Value}(hvs:VR c vs s){fly:Fa}
  (b3:∀x∈ys,x.cells.length=sz') (b5:∀v∈fly,v.oneCell'=true) (b7:∀(j:Nat) (v:Value) (d:PD),fly[j]?=some v->(ys.flatMap PD.cells)[j]?=some d->VR c v d)
  (hsrc:∀e i z,P.underlying t=some (.slice e)->P.info? e=some i->i.zero=some z->z.cells.size=i.size->0<i.size->(ys.length=0\/sz'=i.size)->Src P c.w t u ty e i vx ys.length fly) :
  ∃v w',(Builtin.append_ #[t,u] ty #[vs,vx]).run P c.w=.ok v w'/\Leaves fl c p σ' v w':=by
 unfold fA at h;split at h
 .rename_i e hu;split at h
  .rename_i i hi;split at h
   .rename_i z sz xs tok CT ys1 aSQ hz hxx;simp only[PD.slice.injEq]at hxx;obtain⟨rfl,rfl,rfl⟩:=hxx;split at h
    .rename_i hc;obtain⟨hsz,FC,hpos,hzs,hmax,hby⟩:=hc;obtain⟨A,cap,flx,rfl,a1,a2,a3,a4,a5,a6,a7,a8⟩:=hvs.nS;have src:=hsrc e i z hu hi hz hzs hpos FC
     by_cases hy0:ys.length=0
     ·
      rw[yAJ hy0]at h;simp only[yAb,yAc]at h;obtain⟨rfl,rfl⟩:=h;exact⟨.slice A xs.length cap,c.w,src.none_ hy0 A _ cap a1,c,rfl,rfl,hs,.refl _ _,hvs,λ_ h=>.inl h⟩
     .rw[yAI hy0]at h;have hypos:0<ys.length:=yCY hy0;have aHq:sz'=i.size:=FC.resolve_left hy0;subst aHq;have hcells:∀(j:Nat) (v:Value),flx[j]?=some v->∃ad,A=some ad/\c.w.cell? (ad.add j)=some v:=λj v hj=>by
       exact jr
      cases tok with
      |any=>simp at h
      |iK=>simp at h
      |jF=>simp at h
      |nil=>exact absurd rfl (hnn _ _)
      |full=>
       simp only[yAb,yAc]at h;obtain⟨rfl,rfl⟩:=h;simp only[qP]at a8;have hx3:∀x∈xs,x.cells.length=i.size:=λx hx=>by
        have:xs.length≠0:=by intro e0;rw[List.length_eq_zero_iff.1 e0]at hx;cases hx
        rw[<-hsz.resolve_left this];exact a3 x hx
       have RM:flx.length=xs.length*i.size:=by
        exact tc
       have hA:A=none->xs.length=0/\cap=0:=by
        rintro rfl
        have hx0:xs.length=0:=by
         rcases yEb xs.length with h0|h0
         .exact h0
         .have:0<flx.length:=by rw[RM];exact yCX h0 hpos
          exact sw
        exact⟨hx0,ye⟩
       obtain⟨v',w',r,hown,hgr,hnew⟩:=src.grow hypos A xs.length cap flx hA RM hcells ye hmax hby;refine⟨v',w',r,c.push w' v' (.own e i.size (xs.length+ys.length)),rfl,rfl,?_,?_,?_,?_⟩
       .exact Sr.push hs hgr (λb hb=>⟨hnew b hb,RI hown hb⟩) ⟨_,hown⟩
       .exact Nx.push hs hgr hnew
       .have nx:Nx 0 c (c.push w' v' (.own e i.size (xs.length+ys.length))):=Nx.push hs hgr hnew;refine aAl (e:=e) (flx:=flx) (fly:=fly) rfl rfl ye hx3 b3 RM a5 b5 (λj v d q1 q2=>(a7 j v d q1 q2).mono nx) (λj v d q1 q2=>(b7 j v d q1 q2).mono nx) hown ?_ ?_
        .intro g j hg hj;refine II (hs.fresh _ (hnew g hg)) (λid o hd ho hb=>?_);rcases hd with hd|rfl
         .rw[oG hs hd]at hb;have:=hs.lt id g hd hb;have:=hnew g hg;omega
         .rw[gC.1]at ho;exact ud
        .intro cp _;exact⟨.inr rfl,e,_,gC.1,yAk _,λ_=>gC.2.1⟩
       .exact bx
      |own id=>
       simp only at h;split at h
       .rename_i hflid;split at h
        .rename_i e' kP n hq;split at h
         .rename_i hcc;obtain⟨he,rfl,rfl⟩:=hcc;have he:=he.symm;subst he;simp only[yAb,yAc]at h;obtain⟨rfl,rfl⟩:=h;obtain⟨hfl,rfl⟩:=hflid;obtain⟨hd,e0,m0,cK,hle,hρ⟩:=a8;rw[hq]at cK;simp only[yAb,aB.own.injEq]at cK;obtain⟨rfl,_,rfl⟩:=cK;have aAp:=hρ rfl;obtain⟨IJ,MM⟩:=hs.own id _ _ _ hd hq;rw[aAp]at MM;have hfx:flx=IJ:=aHk MM a4 hcells;subst hfx;have hrun:∃v' w',(Builtin.append_ #[t,u] ty #[.slice A xs.length cap,vx]).run P c.w=.ok v' w' /\
            w'.ownsRowF 0 e i.size v' (xs.length+ys.length) (flx++fly)/\(w'.os=c.w.os/\w'.tape=c.w.tape/\w'.output=c.w.output/\c.w.heap.size<=w'.heap.size) /\
            (∀k,k<c.w.heap.size->aY (c.ρ id)≠some k->w'.heap[k]?=c.w.heap[k]?) /\
            (∀(a:Addr) (u:Value),(∀b,aY (c.ρ id)=some b->a.block=b->a.off<xs.length*i.size)->c.w.cell? a=some u->w'.cell? a=some u) /\
            (aY v'=aY (c.ρ id)\/∀b,aY v'=some b->c.w.heap.size<=b):=by
           rw[aAp];have hgrow:cap<xs.length+ys.length->(A=none->xs.length=0/\cap=0)->∃v' w',(Builtin.append_ #[t,u] ty #[.slice A xs.length cap,vx]).run P c.w=.ok v' w' /\
             w'.ownsRowF 0 e i.size v' (xs.length+ys.length) (flx++fly)/\(w'.os=c.w.os/\w'.tape=c.w.tape/\w'.output=c.w.output/\c.w.heap.size<=w'.heap.size) /\
             (∀k,k<c.w.heap.size->aY (.slice A xs.length cap)≠some k->w'.heap[k]?=c.w.heap[k]?) /\
             (∀(a:Addr) (u:Value),(∀b,aY (.slice A xs.length cap)=some b->a.block=b->a.off<xs.length*i.size)->c.w.cell? a=some u->w'.cell? a=some u) /\
             (aY v'=aY (.slice A xs.length cap)\/∀b,aY v'=some b->c.w.heap.size<=b):=λhcap hA=>by
            obtain⟨v',w',r,h2,h3,h4⟩:=src.grow hypos A xs.length cap flx hA a4 hcells hcap hmax hby;refine⟨v',w',r,h2,⟨h3.os,h3.tape,h3.output,h3.size⟩,λk hk _=>h3.block k hk yg,λa u _ uB=>?_,.inr h4⟩;rw[yCI (h3.block a.block (yP uB) yg)];exact uB
           rcases MM.2 with⟨gR,h0⟩ | ⟨g,aSR,cur,fz,gR,_,hg,hfz,hnc,hcm,hcs,htake⟩
           .simp only[yBM]at gR;obtain⟨rfl,_,rfl⟩:=gR;exact hgrow ye (λ_=>⟨h0,rfl⟩)
           .simp only[yBM]at gR;obtain⟨rfl,_,rfl⟩:=gR
            by_cases hroom:xs.length+ys.length<=cap
            .obtain⟨w',r,h2,h3⟩:=src.spare g xs.length cap flx MM hroom;refine⟨_,w',r,h2,⟨h3.os,h3.tape,h3.output,h3.size⟩,λk hk hne=>h3.block k hk (by simpa [aY,eq_comm]using hne),λa u ha uB=>?_,.inl rfl⟩
             by_cases hag:a.block=g
             .have hoff:=ha g rfl hag;rcases h2.2 with⟨qQ,_⟩ | ⟨g1,cp1,aHr,fz1,qQ,_,fN,_,_,_,_,aHs⟩
              .simp at qQ
              .simp only[yBM,yAb,yBJ,yBn]at qQ;obtain⟨rfl,_,rfl⟩:=qQ;obtain⟨ab,ao,asp⟩:=a;simp only at hag hoff;subst hag;simp only[World.cell?,hg,fN]at uB ⊢;split at uB
               .simp at uB
               .rename_i hsp;rw[yAI hsp];have q1:flx[ao]?=some u:=by rw[<-htake,yAv,yAJ hoff];simpa using uB
                have q2:(flx++fly)[ao]?=some u:=by rw[yAg (yA.1 q1).1];exact q1
                rw[<-aHs,yAv]at q2;split at q2
                .simpa using q2
                .simp at q2
             .rw[yCI (h3.block a.block (yP uB) (by simpa using hag))];exact uB
            .exact hgrow ye (λh=>yw)
          obtain⟨v',w',r,hown,h0,h1,h2,h3⟩:=hrun;have hn:xs.length<xs.length+ys.length:=ye;refine⟨v',w',r,c.put w' id v' (.own e i.size (xs.length+ys.length)),rfl,rfl,Sr.IK hs hd hq hn h0 h1 h2 h3 hown (λb hb=>RI hown hb),Nx.IK hs hd hq hfl hn h0 h1 h2 h3,?_,λ_ h=>.inl h⟩;have nx:Nx 0 c (c.put w' id v' (.own e i.size (xs.length+ys.length))):=Nx.IK hs hd hq (yAF _) hn h0 h1 h2 h3;refine aAl (e:=e) (flx:=flx) (fly:=fly) rfl rfl ye a3 b3 a4 a5 b5 (λj v d q1 q2=>(a7 j v d q1 q2).mono nx) (λj v d q1 q2=>(b7 j v d q1 q2).mono nx) hown ?_ ?_
          .intro g j hg hj;have hXg:c.X ⟨g,j,none⟩:=by
            rcases h3 with h3|h3
            .exact hX id g hd hfl (by rw[<-h3];exact hg) _ rfl
            .exact hs.fresh _ (h3 g hg)
           refine II hXg (λi' o hd' ho hb=>?_)
           by_cases e':i'=id
           .subst e';rw[eH (hs.bA i' hd)]at ho;exact ud
           .rw[fH e']at hb
            exfalso
            rcases h3 with h3|h3
            .exact hs.inj i' id g hd' hd e' hb (by rw[<-h3];exact hg)
            .have:=h3 g hg;have:=hs.lt i' g hd' hb;omega
          .intro cp _;exact⟨hd,e,_,eH (hs.bA id hd),yAk _,λ_=>lT⟩
         .exact af
        .exact af
       .exact af
    .exact af
   .exact af
  .exact af
 .exact af
theorem aAq(hs:Sr c)(hX:Xw fl c){t u ty:TypeId}{s p:PD}{sz':Nat}{ys:Ey}{fG:Tok}{σ':Ex}(h:fA P fl c.σ t s (.slice sz' ys fG)=some (p,σ')){vs vx:Value}(hvs:VR c vs s){fly:Fa}
  (b3:∀x∈ys,x.cells.length=sz') (b5:∀v∈fly,v.oneCell'=true) (b7:∀(j:Nat) (v:Value) (d:PD),fly[j]?=some v->(ys.flatMap PD.cells)[j]?=some d->VR c v d)
  (hsrc:∀e i z,P.underlying t=some (.slice e)->P.info? e=some i->i.zero=some z->z.cells.size=i.size->0<i.size->(ys.length=0\/sz'=i.size)->Src P c.w t u ty e i vx ys.length fly) :
  ∃v w',(Builtin.append_ #[t,u] ty #[vs,vx]).run P c.w=.ok v w'/\Leaves fl c p σ' v w':=by
 by_cases hn:∃n xs,s=.slice n xs .nil
 .obtain⟨n,xs,rfl⟩:=hn;have aHt:VR c vs (.slice n xs .full):=by
   obtain⟨A,cap,dT,rfl,a1,a2,a3,a4,a5,a6,a7,a8⟩:=hvs.nS;exact .slice A _ cap n xs .full dT rfl a1 a2 a3 a4 a5 a6 a7 (by obtain⟨_,q1,q2⟩:=a8;show xs.length=cap;omega)
  have h2:∀(h0:ys.length≠0),fA P fl c.σ t (.slice n xs .full) (.slice sz' ys fG)=some (p,σ'):=λh0=>by
   unfold fA at h ⊢;cases he:P.underlying t with
   |none=>rw[he]at h;cases h
   |some d=>
    rw[he]at h;cases d with
    |slice e=>
     simp only at h ⊢;cases hi:P.info? e with
     |none=>rw[hi]at h;cases h
     |some i=>
      rw[hi]at h;simp only at h ⊢;cases hz:i.zero with
      |none=>rw[hz]at h;cases h
      |some z=>
       rw[hz]at h;simp only[h0,yAN]at h ⊢;exact h
    |_=>cases h
  by_cases h0:ys.length=0
  .obtain⟨A,cap,dT,rfl,a1,a2,a3,a4,a5,a6,a7,a8⟩:=hvs.nS;unfold fA at h;split at h
   .rename_i e he;split at h
    .rename_i i hi;split at h
     .rename_i z _ _ _ _ _ _ hz he2 he3;simp only[PD.slice.injEq]at he2 he3;obtain⟨rfl,rfl,rfl⟩:=he2;obtain⟨rfl,rfl,rfl⟩:=he3;split at h
      .rename_i hc;simp only[yAb,yAc]at h;obtain⟨rfl,rfl⟩:=h;exact⟨.slice A xs.length cap,c.w,(hsrc e i z he hi hz hc.2.2.2.1 hc.2.2.1 hc.2.1).none_ h0 A _ cap a1,c,rfl,rfl,hs,.refl _ _,hvs,λ_ h=>.inl h⟩
      .cases h
     .cases h
    .cases h
   .cases h
  .exact aAo hs hX (λ_ _ e=>zu) (h2 h0) aHt b3 b5 b7 hsrc
 .exact aAo hs hX (λn xs e=>hn ⟨n,xs,e⟩) h hvs b3 b5 b7 hsrc
theorem aG2(hs:Sr c)(hX:Xw fl c){t:TypeId}{s x p:PD}{σ':Ex}(h:fA P fl c.σ t s x=some (p,σ')){vs vx:Value}(hvs:VR c vs s)(hvx:VR c vx x)(ty:TypeId) :
  ∃v w',(Builtin.append_ #[t,t] ty #[vs,vx]).run P c.w=.ok v w'/\Leaves fl c p σ' v w':=by
 have hx:∃sz' ys fG,x=.slice sz' ys fG:=by
  unfold fA at h;split at h
  .split at h
   .split at h
    .exact⟨_,_,_,rfl⟩
    .cases h
   .cases h
  .cases h
 obtain⟨sz',ys,fG,rfl⟩:=hx;obtain⟨B,cap',fly,rfl,b1,b2,b3,b4,b5,b6,b7,b8⟩:=hvx.nS;refine aAq hs hX h hvs b3 b5 b7 (λe i z hu hi hz hzs hpos hsz=>?_);have hl:fly.length=ys.length*i.size:=by
  rcases hsz with h0|h0
  .rw[b4,h0];simp
  .rw[b4,h0]
 exact aHn hu hi hz hzs hpos hl b5 (λj v hj=>by obtain⟨ad,q1,q2,_⟩:=b6 j v hj;exact⟨ad,q1,q2⟩)
def aHu(l:List UInt8):PD:=.slice (if l.length=0 then 0 else 1) (l.map λb=>.int .u8 b.toNat) .any
theorem RN:∀l:List UInt8,(l.map λb=>PD.int .u8 b.toNat).flatMap PD.cells=l.map λb=>PD.int .u8 b.toNat
 | []=>rfl
 |x::xs=>by
  simp only[yAR,yBs,RN xs];rfl
theorem aG3(hs:Sr c)(hX:Xw fl c){t u:TypeId}{s p:PD}{l:Ez}{σ':Ex}(hst:P.underlying u=some .string)(hb:LX P t=true)(h:fA P fl c.σ t s (aHu l)=some (p,σ')){vs:Value}(hvs:VR c vs s)(ty:TypeId) :
  ∃v w',(Builtin.append_ #[t,u] ty #[vs,.string ⟨l.toArray⟩]).run P c.w=.ok v w'/\Leaves fl c p σ' v w':=by
 have hfm:(l.map λb=>PD.int .u8 b.toNat).flatMap PD.cells=l.map λb=>PD.int .u8 b.toNat:=RN l
 have:=aAq (u:=u) (ty:=ty) (vx:=.string ⟨l.toArray⟩) (fly:=l.map λb=>.int .u8 b.toNat) hs hX h hvs ?_ ?_ ?_ ?_
 .exact this
 .intro x hx;obtain⟨b,hb,rfl⟩:=yAw.1 hx;have:l.length≠0:=by intro e;rw[List.length_eq_zero_iff.1 e]at hb;cases hb
  rw[yAI this];rfl
 .intro v hv;obtain⟨b,_,rfl⟩:=yAw.1 hv;rfl
 .intro j v d h1 h2;rw[hfm]at h2;rw[yAo]at h1 h2;cases hj:l[j]? with
  |none=>rw[hj]at h1;simp at h1
  |some b=>
   rw[hj]at h1 h2;simp only[yAC,yAb]at h1 h2;subst h1 h2;exact ey
 .intro e i z hu hi hz hzs hpos hsz;simp only[LX,hu,hi,hz]at hb;rw[yAe];split at hb
  .rename_i heq;simp only[yAb]at heq;subst heq;simp only[yAr,yCd]at hb;exact aHo hu hst hi hz hb.1 hb.2 l
  .cases hb
end
end
section
open Go.RowKit
section
variable{P:Program}{c:Cx}{fl:Nat}
theorem aAj{n:Nat}:∀(parts:List (Nat×PD)) (i:Nat) (ps z:List PD),EP i parts=some ps->(∀p∈ps,p.cells.length=n/\p.cells.all PD.plain=true)->(i+ps.length)*n<=z.length ->
  wT (λi=>some (i*n,n)) z parts=some (z.take (i*n)++ps.flatMap PD.cells++z.drop ((i+ps.length)*n))
 | [],i,ps,z,h,_,_=>by simp[EP]at h;subst h;simp[wT]
 |(j,p)::parts,i,ps,z,h,hp,hl=>by
  unfold EP at h;split at h
  .rename_i hj;subst hj;split at h
   .rename_i qs hq;simp only[yAb]at h;subst h;obtain⟨qL,jU⟩:=hp p yg;have hle:(j+1+qs.length)*n<=z.length:=by simpa [yBX,yDp 1]using hl
    have hjn:j*n+n<=z.length:=by
     exact rz
    have hz:(eC z (j*n) p.cells).length=z.length:=by simp[eC,qL];omega
    have ih:=aAj parts (j+1) qs (eC z (j*n) p.cells) hq (λq cK=>hp q (by simp[cK])) (by rw[hz];exact hle);have e1:(eC z (j*n) p.cells).take ((j+1)*n)=z.take (j*n)++p.cells:=by
     unfold eC;rw[yDa (by simp[qL,yBu];omega),yAz (by simp[qL,yBu];omega)]
    have e2:(eC z (j*n) p.cells).drop ((j+1+qs.length)*n)=z.drop ((j+1+qs.length)*n):=by
     have h3:j*n+n<=(j+1+qs.length)*n:=by
      exact rz
     unfold eC;rw[List.drop_append,yAs (by simp[qL];omega),yAO,yBI]
     congr 1
     simp[qL];omega
    unfold wT;simp only;rw[yAI (by simp[qL,jU];omega),ih,e1,e2];simp only[yBs,yAi,yAS];rw[show j+1+qs.length=j+(qs.length+1) by omega]
   .exact af
  .exact af
theorem aAi{t:TypeId}{n:Nat}(h:bT P t=some n):∃i,P.info? t=some i/\i.size=n:=MK h
theorem aAb(hs:Sr c){t:TypeId}{len:Nat}{parts:List (Nat×PD)}{vparts:List (Nat×Value)}{p:PD}(h:sE P t len parts=some p)(hl:vparts.length=parts.length)
  (hp:∀(i:Nat) (jv:Nat×Value) (jp:Nat×PD),vparts[i]?=some jv->parts[i]?=some jp->jv.1=jp.1/\VR c jv.2 jp.2) :
  ∃e cells',P.underlying t=some (.slice e)/\(Instr.buildSlice t len vparts.toArray).run P c.w=.ok (.slice (some ⟨c.w.heap.size,0,none⟩) len len) (c.w.alloc (.cells cells' e)) /\
   ∀w'' fz,c.w.grownBy w'' none->w''.heap[c.w.heap.size]?=some (.cells cells' e fz)->VR (c.at w'') (.slice (some ⟨c.w.heap.size,0,none⟩) len len) p:=by
 unfold sE at h;split at h
 .rename_i e hu;split at h
  .rename_i n z ps hn hz hix;split at h
   .rename_i hcond;obtain⟨hlen,hn0,hsmall,hall,hzl,hzp⟩:=hcond;simp only[yAb]at h;subst h;obtain⟨zv,i,hi,hzv,hzr⟩:=CX (c:=c) hz;have hzc:=hzr.cells;have hzs:zv.cells.size=n:=Cw;have hps:∀q∈ps,q.cells.length=n/\q.cells.all PD.plain=true:=λq hq=>by
     have:=yAn.1 hall q hq;exact bq
    let z0:List PD:=(List.range (len*n)).map λk=>z.cells.getD (k%n) (.aP [])
    let c0:Array Value:=(Array.range (len*n)).map λk=>zv.cells[k%zv.cells.size]!
    have hc0:aS c c0.toList z0:=by
     refine⟨by simp[c0,z0],λk v d hv hd=>?_⟩;simp only[c0,z0,yDq,yDr,yAo]at hv hd;cases hk:(List.range (len*n))[k]? with
     |none=>simp[hk]at hv
     |some k'=>
      exact ek
    have hz1:∀v∈zv.cells.toList,v.oneCell'=true:=aS.wW hzc hzp;have dI:∀v∈c0.toList,v.oneCell'=true:=by
     intro v hv;simp only[c0,yDq,yDr,yAw]at hv;exact kg
    have aAk:z0.length=len*n:=by simp[z0]
    have hfi:=aAj (n:=n) parts 0 ps z0 hix hps (by rw[aAk,hlen];simp);obtain⟨cells',f1,f2,f3⟩:=ML parts vparts z0 c0 _ hl hp hc0 dI hfi;have hcs:z0.take (0*n)++ps.flatMap PD.cells++z0.drop ((0+ps.length)*n)=ps.flatMap PD.cells:=by
     rw[yAs (by rw[aAk,hlen];simp)];simp
    rw[hcs]at f2;have hfl:cells'.toList.length=len*n:=by rw[f2.1,CZ ps (λq hq=>(hps q hq).1),hlen]
    refine⟨e,cells',hu,?_,λw'' fz hgr hnew=>?_⟩
    .have hln:¬(len*n > 2^24):=by omega
     obtain⟨i',hi',hsz⟩:=aAi hn;have hfz:Instr.fill (λi=>some (i*n,n)) ((Array.range (len*n)).map λk=>(if len*n=0 then(#[]:Array Value)else zv.cells)[k%(if len*n=0 then(#[]:Array Value)else zv.cells).size]!) vparts=some cells':=by
      by_cases h0:len*n=0
      .simp only[h0,yAK];have:c0=#[]:=by simp[c0,h0]
       rw[this]at f1;rw[show(Array.range 0)=#[]from rfl];simpa using f1
      .simp only[h0,yAN];exact f1
     simp only[Instr.buildSlice,yBa,yAM hu,yBj,mI hn,yAI hln]
     by_cases h0:len*n=0
     .simp only[h0,yAK]at hfz ⊢;simp only[yBa,yBk,yBj,hfz];simp[newRow]
     .simp only[h0,yAN]at hfz ⊢;have IG:(zeroValue e).run P c.w=.ok zv c.w:=Ct;simp only[yBa,yBk,yBj,IG,hfz];simp[newRow]
    .have nx:Nx 0 c (c.at w''):=Nx.grow hs hgr;refine .slice (some ⟨c.w.heap.size,0,none⟩) len len n ps .full cells'.toList hlen.symm (yAk _) ?_ (λq hq=>(hps q hq).1) hfl f3 ?_ (λj v d q1 q2=>(f2.2 j v d q1 q2).mono nx) rfl
     .have:len<=len*n:=Nat.le_mul_of_pos_right _ hn0;simp only[maxLen];omega
     .intro j v hv;have hadd:(⟨c.w.heap.size,0,none⟩:Addr).add j=⟨c.w.heap.size,j,none⟩:=zg;refine⟨_,rfl,?_,?_⟩
      .rw[hadd];show w''.cell? _=_
       simp only[World.cell?,hnew];simpa using hv
      .exact ei
   .exact af
  .exact af
 .exact af
theorem aGS(hs:Sr c){t:TypeId}{len:Nat}{parts:List (Nat×PD)}{vparts:List (Nat×Value)}{p:PD}(h:sE P t len parts=some p)(hl:vparts.length=parts.length)
  (hp:∀(i:Nat) (jv:Nat×Value) (jp:Nat×PD),vparts[i]?=some jv->parts[i]?=some jp->jv.1=jp.1/\VR c jv.2 jp.2) :
  ∃v w',(Instr.buildSlice t len vparts.toArray).run P c.w=.ok v w'/\Leaves fl c p c.σ v w':=by
 obtain⟨e,cells',hu,hr,hv⟩:=aAb hs h hl hp;have hgr:=wV c.w (.cells cells' e);exact⟨_,_,hr,c.at (c.w.alloc (.cells cells' e)),rfl,rfl,Sr.grow hs hgr,Nx.grow hs hgr,hv _ (0,0) hgr (yBW _ _),λ_ h=>.inl h⟩
theorem run_mark{t e:TypeId}(w:World)(cs:Array Value)(n cap:Nat)(hu:P.underlying t=some (.slice e))(he:P.underlying e=some (.int .u8)) :
  (convert t t (.slice (some ⟨w.heap.size,0,none⟩) n cap)).run P (w.alloc (.cells cs e))=.ok (.slice (some ⟨w.heap.size,0,none⟩) n cap) ((w.alloc (.cells cs e)).freeze ⟨w.heap.size,cs.size,none⟩ 1):=by
 have hsh:(w.alloc (.cells cs e)).shape? w.heap.size=some (e,cs.size):=by simp[World.shape?,World.alloc,-World.alloc_eq]
 simp[convert,yAM hu,yAM he,markStringish,hsh,Result.andThen]
theorem aGN(w:World)(e:TypeId)(cs:Array Value):∃fz,((w.alloc (.cells cs e)).freeze ⟨w.heap.size,cs.size,none⟩ 1).heap[w.heap.size]?=some (.cells cs e fz):=by
 refine⟨(cs.size,cs.size+1),?_⟩;simp[World.freeze,World.alloc,-World.alloc_eq];rw[Array.getElem_modify_self];simp
theorem aGM(w:World)(e:TypeId)(cs:Array Value):w.grownBy ((w.alloc (.cells cs e)).freeze ⟨w.heap.size,cs.size,none⟩ 1) none where
 os:=rfl
 tape:=rfl
 output:=rfl
 size:=by simp[World.freeze,World.alloc,-World.alloc_eq]
 block:=λk hk _=>by
  have h1:w.heap.size≠k:=ye;simp[World.freeze,World.alloc,-World.alloc_eq,yDv,Array.getElem?_push,h1,yBb h1]
theorem aHj(w:World)(e:TypeId)(s:ByteArray):w.grownBy (Lib.bytesWorld w e s) none where
 os:=rfl
 tape:=rfl
 output:=rfl
 size:=by rw[Lib.bytesWorld_size];omega
 block:=λk hk _=>Lib.bytesWorld_at_old w e s k hk
theorem RJ:∀ {xs:Ey} {l:Ez},CQ xs=some l->∃ns:List Int,xs=ns.map (PD.int .u8)/\l=ns.map λn=>UInt8.ofNat n.toNat
 | [],l,h=>by simp only[CQ,yAb]at h;subst h;exact⟨[],rfl,rfl⟩
 |x::xs,l,h=>by
  unfold CQ at h;split at h
  .rename_i h0;cases h0
  .rename_i n r h0;simp only[yC]at h0;obtain⟨rfl,rfl⟩:=h0;split at h
   .rename_i l' hl;simp only[yAb]at h;obtain⟨ns,rfl,rfl⟩:=RJ hl;exact⟨n::ns,rfl,h.symm⟩
   .cases h
  .cases h
theorem RL:∀(ns:List Int) (s:ByteArray),ns.foldl (λr n=>r.push (UInt8.ofNat n.toNat)) s=⟨s.data++(ns.map λn=>UInt8.ofNat n.toNat).toArray⟩
 | [],s=>yg
 |n::ns,s=>by
  rw[yDm,RL ns];simp[ByteArray.push]
theorem aGT(hs:Sr c){s d:TypeId}{x p:PD}(h:HN P s d x=some p){vx:Value}(hx:VR c vx x):∃v w',(convert s d vx).run P c.w=.ok v w'/\Leaves fl c p c.σ v w':=by
 unfold HN at h;split at h
 .rename_i e l hu hd;split at h
  .rename_i he;split at h
   .rename_i hl;simp only[yAb]at h;subst h;have hv:=hx.rM;subst hv;have hsz:(ByteArray.mk l.toArray).size=l.length:=Cr;have hgr:=aHj c.w e ⟨l.toArray⟩;have r:=Lib.run_convert_string_bytes (P:=P) c.w s d e ⟨l.toArray⟩ hu hd he;have hge:=yDs c.w l.length 0 e;have hcm:=yDN c.w l.length 0 e hl;rw[hsz]at r;refine⟨_,_,r,c.at (Lib.bytesWorld c.w e ⟨l.toArray⟩),rfl,rfl,Sr.grow hs hgr,Nx.grow hs hgr,?_,λ_ h=>.inl h⟩;refine .slice (some ⟨c.w.heap.size,0,none⟩) l.length _ 1 _ .any (l.map λb=>Value.int .u8 b.toNat) yg hge hcm (λq hq=>?_) yg (λv hv=>?_) (λj v hv=>?_) (λj v q q1 q2=>?_) trivial
    .obtain⟨b,_,rfl⟩:=yAw.1 hq;rfl
    .obtain⟨b,_,rfl⟩:=yAw.1 hv;rfl
    .have hadd:(⟨c.w.heap.size,0,none⟩:Addr).add j=⟨c.w.heap.size,j,none⟩:=by unfold Addr.add;split<;>simp_all
     refine⟨_,rfl,?_,?_⟩
     .rw[hadd];have hj:j<l.length:=by simpa using(yA.1 hv).1
      have:=Lib.bytesWorld_cell c.w e ⟨l.toArray⟩ j (by rw[hsz];exact hj);show(Lib.bytesWorld c.w e ⟨l.toArray⟩).cell? _=_
      rw[this];rw[yAo,yAh hj]at hv;simp only[yAC,yAb]at hv;rw[<-hv];simp[List.getD,hj]
     .exact ei
    .have e1:∀l:List UInt8,(l.map λb=>PD.int .u8 b.toNat).flatMap PD.cells=l.map λb=>PD.int .u8 b.toNat:=by
      intro l
      induction l with
      |nil=>rfl
      |cons b l ih=>
       simp only[yAR,yBs,ih];rfl
     rw[e1,yAo]at q2;rw[yAo]at q1;cases hj:l[j]? with
     |none=>rw[hj]at q1;cases q1
     |some b=>
      rw[hj]at q1 q2;simp only[yAC,yAb]at q1 q2;subst q1 q2;exact ey
   .cases h
  .cases h
 .rename_i e sz xs tok hu hd;split at h
  .rename_i he;split at h
   .rename_i hsz;split at h
    .rename_i l hl;simp only[yAb]at h;subst h;obtain⟨A,cap,dT,rfl,h2,h3,h4,h5,h6,h7,h8,h9⟩:=hx.nS;obtain⟨ns,rfl,rfl⟩:=RJ hl;rw[yAe]at h2 h5 hsz ⊢;have hfl:dT=ns.map (Value.int .u8):=by
      have hlen:dT.length=ns.length:=by
       rcases hsz with h|h
       .rw[h5,h];simp
       .rw[h5,h];simp
      refine yCp λj=>?_
      by_cases hj:j<ns.length
      .have e1:((ns.map (PD.int .u8)).flatMap PD.cells)[j]?=some (.int .u8 ns[j]):=by
        have:∀ns:List Int,(ns.map (PD.int .u8)).flatMap PD.cells=ns.map (PD.int .u8):=by
         intro ns
         induction ns with
         |nil=>rfl
         |cons b l ih=>
          simp only[yAR,yBs,ih];rfl
        rw[this,yAo,yAh hj];rfl
       have:=(h8 j dT[j] _ (yAh ye) e1).oW;rw[yAh (show j<dT.length by omega),yAo,yAh hj,this];rfl
      .rw[yBF ye,yBF zf]
     subst hfl;have hrun:(convert s d (.slice A ns.length cap)).run P c.w=.ok (.string ⟨(ns.map λn=>UInt8.ofNat n.toNat).toArray⟩) c.w:=by
      rw[run_convert_bytes_string c.w s d e A ns.length cap hu he hd];cases A with
      |none=>
       have:ns=[]:=by
        cases ns with
        |nil=>rfl
        |cons n ns=>
         obtain⟨ad,e',_⟩:=h7 0 _ rfl;cases e'
       subst this;simp[Conv.bytesToString,yBk];rfl
      |some a=>
       rw[run_bytesToString c.w a ns.length cap ns (AV yg (λj v hj=>by
        obtain⟨ad,e',h10,_⟩:=h7 j v hj;cases e';exact h10)),RL]
       simp
     exact⟨_,_,hrun,c,rfl,rfl,hs,.refl _ _,.str _,λ_ h=>.inl h⟩
    .cases h
   .cases h
  .cases h
 .cases h
end
end
section
open Go.RowKit
section
variable{P:Program}{c:Cx}{fl:Nat}
theorem aHe(z:PD)(n l:Nat):(uE z n l).length=l*n:=by simp[uE]
theorem aHf{zv:Value}{z:PD}{n:Nat}(hz:VR c zv z)(hn:z.cells.length=n)(hn0:0<n)(l:Nat):aS c (madeCells zv.cells (l*n)).toList (uE z n l):=by
 have hzc:=hz.cells;have hzs:zv.cells.size=n:=Cw;refine⟨by simp[madeCells,uE],λk v d hv hd=>?_⟩;simp only[madeCells,uE,yDq,yDr,yAo]at hv hd;cases hk:(List.range (l*n))[k]? with
 |none=>simp[hk]at hv
 |some k'=>
  exact ek
theorem aHg{zv:Value}{z:PD}{n:Nat}(hz:VR c zv z)(hn:z.cells.length=n)(hn0:0<n)(hp:z.cells.all PD.plain=true)(l:Nat):∀v∈(madeCells zv.cells (l*n)).toList,v.oneCell'=true:=by
 have hzc:=hz.cells;have hzs:zv.cells.size=n:=Cw;have hz1:∀v∈zv.cells.toList,v.oneCell'=true:=aS.wW hzc hp;intro v hv;simp only[madeCells,yDq,yDr,yAw]at hv;exact kg
theorem aHh{z:PD}{n l:Nat}(hn:z.cells.length=n)(hn0:0<n):(List.replicate l z).flatMap PD.cells=uE z n l:=by
 have hx:∀x∈List.replicate l z,x.cells.length=n:=λx hx=>by rw[(List.mem_replicate.1 hx).2];exact hn
 have hl:((List.replicate l z).flatMap PD.cells).length=l*n:=by rw[CZ _ hx,List.length_replicate]
 refine yCp λj=>?_
 by_cases hj:j<l*n
 .have hi:j/n<l:=Nat.div_lt_of_lt_mul (by rw[Nat.mul_comm];exact hj);have hm:j%n<n:=yBw _ hn0;have:=RH n (List.replicate l z) hx (j/n) z (by simp[hi]) (j%n) hm;rw[Nat.div_add_mod']at this;rw[this];simp only[uE,yAo,List.getElem?_range hj,yAC];rw[yAh ye];simp[List.getD,show j%n<z.cells.length by omega]
 .rw[yBF ye,yBF (by rw[aHe];omega)]
theorem aGV(hs:Sr c){t e:TypeId}{l k:Nat}{p:PD}{σ':Ex}(hu:P.underlying t=some (.slice e))(h:sA P c.σ t e l k=some (p,σ'))(kl kk:IntKind) :
  ∃v w',(Instr.makeSlice t (.int kl (l:Int)) (.int kk (k:Int))).run P c.w=.ok v w'/\Leaves fl c p σ' v w':=by
 unfold sA at h;split at h
 .rename_i i n z hi hn hz;split at h
  .rename_i hc;obtain⟨hlk,hn0,hzl,hzp,hmax,hby⟩:=hc;obtain⟨zv,i',hi',hzv,hzr⟩:=CX (c:=c) hz;rw[hi]at hi';obtain rfl:=yBe hi';obtain⟨i',hi',hsz⟩:=aAi hn;rw[hi]at hi';obtain rfl:=yBe hi';have hmx:(k:Int)<=9223372036854775807:=Cs;have hb':(i.bytes:Int)*(k:Int)<=281474976710656:=by
    have:((i.bytes*k:Nat):Int)<=281474976710656:=by rw[Nat.mul_comm];omega
    rwa [Int.natCast_mul]at this
   have hr:=run_make (P:=P) c.w t e i zv hu hi hzv kl kk l k ye ye hb' hmx;simp only[yBy]at hr;rw[hsz]at hr;have hgr:=wV c.w (.cells (madeCells zv.cells (k*n)) e);have hnew:=yBW c.w (.cells (madeCells zv.cells (k*n)) e);have hsize:(madeCells zv.cells (k*n)).size=k*n:=size_madeCells _ _;split at h
   .rename_i h0;obtain⟨rfl,hk0⟩:=h0;simp only[yAb,yAc]at h;obtain⟨rfl,rfl⟩:=h;have hown:(c.w.alloc (.cells (madeCells zv.cells (k*n)) e)).ownsRowF 0 e n (.slice (some ⟨c.w.heap.size,0,none⟩) 0 k) 0 []:=
     ⟨yg,.inr ⟨c.w.heap.size,k,_,(0,0),rfl,yAF _,hnew,yAF _,yAF _,hmax,hsize,yg⟩⟩
    have hbk:∀b,aY (.slice (some ⟨c.w.heap.size,0,none⟩) 0 k)=some b->c.w.heap.size<=b:=λb hb=>Cy
    refine⟨_,_,hr,c.push (c.w.alloc (.cells (madeCells zv.cells (k*n)) e)) (.slice (some ⟨c.w.heap.size,0,none⟩) 0 k) (.own e n 0),rfl,rfl,?_,Nx.push hs hgr hbk,?_,?_⟩
    .exact Sr.push hs hgr (λb hb=>⟨hbk b hb,RI hown hb⟩) ⟨_,hown⟩
    .exact .slice (some ⟨c.w.heap.size,0,none⟩) 0 k n [] (.own c.σ.length) [] rfl (yAF _) hmax yg yg yg yg yg ⟨.inr rfl,e,0,gC.1,yAk _,λ_=>gC.2.1⟩
    .exact bx
   .split at h
    .rename_i aHi;subst aHi;have hcv:=aHf (c:=c) hzr hzl hn0 l;have dI:=aHg (c:=c) hzr hzl hn0 hzp l;split at h
     .simp only[yAb,yAc]at h;obtain⟨rfl,rfl⟩:=h;have hbk:∀b,aY (.pointer (some ⟨c.w.heap.size,0,none⟩))=some b->c.w.heap.size<=b/\b<(c.w.alloc (.cells (madeCells zv.cells (l*n)) e)).heap.size:=λb hb=>by
       simp[aY]at hb;subst hb;simp
      refine⟨_,_,hr,c.push (c.w.alloc (.cells (madeCells zv.cells (l*n)) e)) (.pointer (some ⟨c.w.heap.size,0,none⟩)) (.box (.agg (uE z n l))),rfl,rfl,?_,Nx.push hs hgr (λb hb=>(hbk b hb).1),?_,?_⟩
      .exact Sr.push hs hgr hbk ⟨_,madeCells zv.cells (l*n),e,rfl,hnew,hcv,dI,λt ds e=>zu⟩
      .exact .cV _ _ _ _ _ _ (.inr rfl) ⟨_,gC.1⟩ gC.2.1 (yAk _) hmax
      .exact bx
     .simp only[yAb,yAc]at h;obtain⟨rfl,rfl⟩:=h;have nx:Nx 0 c (c.at (c.w.alloc (.cells (madeCells zv.cells (l*n)) e))):=Nx.grow hs hgr;refine⟨_,_,hr,c.at (c.w.alloc (.cells (madeCells zv.cells (l*n)) e)),rfl,rfl,Sr.grow hs hgr,Nx.grow hs hgr,?_,λ_ h=>.inl h⟩;refine .slice (some ⟨c.w.heap.size,0,none⟩) l l n _ .full (madeCells zv.cells (l*n)).toList yg (yAk _) hmax (λq hq=>by rw[(List.mem_replicate.1 hq).2];exact hzl) (by simp[hsize]) dI ?_ (λj v d q1 q2=>?_) (by simp[qP])
      .intro j v hv;have hadd:(⟨c.w.heap.size,0,none⟩:Addr).add j=⟨c.w.heap.size,j,none⟩:=zg;refine⟨_,rfl,?_,?_⟩
       .rw[hadd];show(c.w.alloc (.cells (madeCells zv.cells (l*n)) e)).cell? _=_
        simp only[World.cell?,hnew];simpa using hv
       .exact ei
      .rw[aHh hzl hn0]at q2;exact(hcv.2 j v d q1 q2).mono nx
    .cases h
  .cases h
 .cases h
theorem aGU(hs:Sr c){s d:TypeId}{x p:PD}(h:AQ P c.σ s d x=some p){vx:Value}(hx:VR c vx x):∃v,(convert s d vx).run P c.w=.ok v c.w/\VR c v p:=by
 unfold AQ at h;split at h
 .rename_i xs e hxs hu hd;split at h
  .rename_i l he hl;simp only[yAb]at h;subst h;unfold yN at hxs;split at hxs
   .rename_i id off n size;split at hxs
    .split at hxs
     .rename_i q hq;split at hxs
      .rename_i hle;simp only[yAb]at hxs;subst hxs;obtain⟨b,cap,rfl,hD,_,hr,_,_⟩:=hx.CV;obtain⟨b',cs,T,e1,e2,e3,e4⟩:=hs.box id q hD hq;have hbb:b=b':=by
        rw[hr]at e1;simpa using e1
       subst hbb;obtain⟨ns,hns,rfl⟩:=RJ hl;have hlen:ns.length=n:=by
        have:=yAL List.length hns;rw[yAt,yBd,yAe]at this;omega
       have hcut:=e3.take_drop off n;rw[hns]at hcut;have hfl:(cs.toList.drop off).take n=ns.map (Value.int .u8):=by
        refine yCp λj=>?_
        cases hj:ns[j]? with
        |none=>
         have hge:=yEe.1 hj;rw[yBF (by have:=hcut.1;rw[yAe]at this;omega),yBF zf]
        |some m=>
         obtain⟨v,qQ,C3⟩:=hcut.get (i:=j) (d:=.int .u8 m) (by rw[yAo,hj];rfl);rw[qQ,C3.oW,yAo,hj];rfl
       have hadd:∀j,(⟨b,off,none⟩:Addr).add j=⟨b,off+j,none⟩:=λj=>zg
       refine⟨.string ⟨(ns.map λn=>UInt8.ofNat n.toNat).toArray⟩,?_,.str _⟩;rw[run_convert_bytes_string c.w s d e (some ⟨b,off,none⟩) n cap hu he hd];rw[run_bytesToString c.w ⟨b,off,none⟩ n cap ns (by
        rw[AV (cs:=ns.map (Value.int .u8)) (by simp[hlen]) (λj v hj=>by
         rw[hadd];simp only[World.cell?,e2];rw[<-hfl,yAv]at hj;split at hj
         .exact iz
         .cases hj)]),RL]
       simp
      .cases hxs
     .cases hxs
    .cases hxs
   .cases hxs
  .cases h
 .cases h
end
end
end Go.Kz
