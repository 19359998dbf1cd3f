/- Steps of the proof. -/
import Derived.WalkKit
import Derived.Maps.AppendAt
import Derived.Lib.FrozenHead
import Derived.CallsIn
import Derived.Laws.StructEq
import Derived.Laws.Entries
import Derived.Laws.Tables
import Derived.ArgAppend
import Derived.Deep.DeepAppendRoom
import Derived.RangeFuncRecord
import Derived.Lib.ConvBytes
import Derived.Laws.BytesString
import Derived.Laws.MakeOwn
set_option linter.all false
set_option maxHeartbeats 40000000
set_option maxRecDepth 100000
namespace Go.Kz
section
variable{G:Prop}
theorem aa(h:G:=by
 simp(disch:=first|omega|(simp;done)|(simp;omega)) [yAu]<;>try rfl):G:=h
theorem af(h:G:=by
 repeat(first|refine aS.panic ?_|refine aO.panic ?_|refine aL.panic ?_)
 exact .inl ⟨_,rfl,rfl,hpost⟩):G:=h
theorem ah(h:G:=by
 simp at h):G:=h
theorem ai(h:G:=by
 obtain⟨rfl,rfl⟩:=he
 have hlt:g<c.w.heap.size:=fX hg
 have hw1:∀k,k≠g->(c.w.drew.freeze ⟨g,0,none⟩ xs.length).heap[k]?=c.w.heap[k]?:=λk hk=>by
  unfold World.freeze
  rw[if_neg (by omega)]
  simp only[Array.getElem?_modify]
  rw[if_neg (Ne.symm hk)]
  rfl
 have hg':c.w.drew.heap[g]?=some (.cells cur 5 fz):=hg
 have lN:(c.w.drew.freeze ⟨g,0,none⟩ xs.length).heap[g]?=some (.cells cur 5 (if fz.1==fz.2 then(0,0+xs.length)else(min fz.1 0,max fz.2 (0+xs.length)))):=by
  unfold World.freeze
  rw[if_neg (by omega)]
  simp only[Array.getElem?_modify,if_true,hg']
  rfl
 have hsz:(c.w.drew.freeze ⟨g,0,none⟩ xs.length).os=c.w.os/\(c.w.drew.freeze ⟨g,0,none⟩ xs.length).tape=c.w.tape/\(c.w.drew.freeze ⟨g,0,none⟩ xs.length).output=c.w.output/\(c.w.drew.freeze ⟨g,0,none⟩ xs.length).heap.size=c.w.heap.size:=by
  unfold World.freeze
  rw[if_neg (by omega)]
  exact⟨rfl,rfl,rfl,by simp⟩
 refine⟨c.at _,rfl,rfl,Sr.T1 hs kM hown j5 hg hsz hw1 lN ?_,Nx.T1 kM j5 hfl hg hsz hw1 lN,.str l,λ_ h=>.inl h⟩
 simp only[yAp,Nat.mul_one]
 split
 .exact yAk _
 .simp only
  omega):G:=h
theorem aj(h:G:=by
 have e:(vs.toArray++Array.replicate (fn.ntmps-vs.toArray.size) undef).toList=vs++List.replicate (fn.ntmps-args.length) undef:=by simp[hv.1]
 rw[e]
 refine hv.append ⟨by simp,λi v d h1 h2=>?_⟩
 rw[yDd]at h1 h2
 split at h1
 .simp only[yAb]at h1 h2;subst h1
  rw[yAJ ‹_›]at h2
  simp only[yAb]at h2;subst h2;exact VR.undef c
 .simp at h1):G:=h
theorem ak(h:G:=by
 intro u ho id hp
 unfold aCg at ho
 split at ho
 .rename_i s u' f G8
  simp only[yAb]at ho
  subst ho
  rw[G8]at hop
  simp only[eF,dF,yAM,dB,aT]at hop
  split at hop
  .rename_i p' hp'
   simp only[yAb,yAc]at hop
   obtain⟨rfl,rfl⟩:=hop
   exact aKZ hp' hp
  .cases hop
 .rename_i u' G8
  simp only[yAb]at ho
  subst ho
  rw[G8]at hop
  simp only[eF,dF,yAM,dB,aT]at hop
  split at hop
  .rename_i p' hp'
   simp only[yAb,yAc]at hop
   obtain⟨rfl,rfl⟩:=hop
   split at hp'
   .rename_i id' off' e
    simp only[yAb]at e hp'
    subst hp'
    rw[e];exact hp
   .rename_i cs off e
    simp only[yAb]at e hp'
    subst hp'
    rw[e];exact hp
   .rename_i id' fH off' e
    simp only[yAb]at e hp'
    subst hp'
    rw[e];exact hp
   .cases hp'
  .cases hop
 .rename_i u' G8
  simp only[yAb]at ho
  subst ho
  rw[G8]at hop
  simp only[eF,dF,yAM,dB,aT,yAb,yAc]at hop
  rw[hop.1];exact hp
 .cases ho):G:=h
theorem an(h:G:=by
 show w'.heap[b']?=_
 rw[h1 b' (fX e2) (λh=>hs.inj i id b' hi hd e' (by rw[e1];rfl) h)]
 exact e2):G:=h
theorem aq(h:G:=by
 refine aD @hm ?_
 exact⟨_,_,rfl,rfl⟩):G:=h
theorem au(h:G:=by
 simp(disch:=first|omega|(simp;done)|(simp;omega)) [yAu,fZ]<;>try rfl):G:=h
theorem ax(h:G:=by
 simp(disch:=first|omega|(simp;done)|(simp;omega)) [yAu,hp,jT]<;>try rfl):G:=h
theorem ay(h:G:=by
 refine⟨this.1,λm=>yBQ (this.2 m) λe w' he=>?_⟩
 cases e with
 |returned v=>
  obtain⟨c1,rfl,rfl,hs1,nx,hvv,_⟩:=he
  have hgr:c.w.grownBy c1.w none:=⟨nx.os,nx.tape,nx.output,nx.size,λk hk _=>nx.frame k hk (λ_ h=>h.elim)⟩
  refine⟨c.at c1.w,rfl,rfl,hs.grow hgr,Nx.grow hs hgr,?_,λ_ h=>.inl h⟩
  have hp:=hvv.strip
  rw[e1]at hp
  have hav:∀a,c1.av a->(c.at c1.w).av a:=λa h1=>by
   have h3:c1.X a:=h1.1
   rw[nx.X]at h3
   exact h3
  exact VR.free (c:=c1) (c':=c.at c1.w) (λa _ h1 h2=>⟨hav a h1,h2⟩) hp e3
 |panicked ch=>exact he.elim
 |outgrown=>exact he.elim):G:=h
theorem az(h:G:=by
 by_cases c1:r=0
 .have eA:(r:Int)=0:=by omega
  rw[yAJ c1]
  refine aD (A10 h1 q1 q2 q3 @i1 @i2 @i3 @i0 eA c1) ?_
  simp(disch:=first|omega|(simp;done)|(simp;omega)) [yAu,yAi]<;>try rfl
 .have eA:¬(r:Int)=0:=by omega
  rw[yAI c1]
  by_cases c2:n=0
  .have iT:(n:Int)=0:=by omega
   rw[yAJ c2]
   refine aD (A12 h1 q1 q2 q3 @i1 @i2 @i3 @i0 eA iT c1 c2) ?_
   simp(disch:=first|omega|(simp;done)|(simp;omega)) [yAu,yAi]<;>try rfl
  .have iT:¬(n:Int)=0:=by omega
   rw[yAI c2]
   refine aD (A12 h1 q1 q2 q3 @i1 @i2 @i3 @i0 eA iT c1 c2) ?_
   simp(disch:=first|omega|(simp;done)|(simp;omega)) [yAu,yAi]<;>try rfl):G:=h
theorem bf(h:G:=by
 rw[h2.int_eq]
 obtain⟨⟨cs,T,fz,hheap,hh⟩,_⟩:=hs.iG.2 1 rfl
 have hcs:=hh.1 .u64 _ rfl
 have htab:Lib.TabIs prog c.w "internal/strconv.uint64pow10" .u64 Lib.pow10Tab:=by
  unfold Lib.TabIs World.var?
  have hg:prog.globalNamed "internal/strconv.uint64pow10" = some 1:=by kernel_rfl
  rw[hg]
  simp only[yCD,hheap]
  rw[hcs]
  rfl
 refine yBp (Tryz.strconv_Itoa n h0 h1 c.w htab) λe w' he=>?_
 obtain⟨rfl,k,os,rfl⟩:=he
 exact⟨_,rfl,⟨rfl,rfl,rfl,by simp[Go.Sort.grow],λi hi _=>by simp[Go.Sort.grow,yDZ,hi]⟩,λ_=>.str _⟩):G:=h
theorem bh(h:G:=by
 intro id hd
 rcases hd with hd|rfl
 .exact .inl hd
 .exact .inr ⟨yAk _,by simp⟩):G:=h
theorem bl(h:G:=by
 simp only[aM,yAT,yAU]
 try rfl):G:=h
theorem bn(h:G:=by
 show(c.w.putObj b x').heap[b']?=_
 rw[yCs (λe'=>hs.inj i id b' hi hd e (by rw[e1];rfl) (by rw[e'];exact hb))]
 exact e2):G:=h
theorem bp(h:G:=by
 simpa using this):G:=h
theorem bq(h:G:=by
 have hu1:=NX
 simp(disch:=first|omega|(simp;done)|(simp;omega)) [yAu,tC,hu1]<;>try rfl
 first|exact⟨by kernel_rfl,rfl,rfl⟩ | exact⟨by kernel_rfl,rfl⟩):G:=h
theorem br(h:G:=by
 unfold dO at htg
 split at htg
 .split at htg
  .rename_i g args' ts f' cap qs h1 h2
   simp only[yAb,yAc,yCy]at htg
   obtain⟨rfl,rfl⟩:=htg
   obtain⟨cs,e,hcs⟩:=(cY hf h1).UK
   exact⟨_,(pL hf h2).append hcs⟩
  .rename_i f' first qs h1 h2
   simp only[yAb,yAc,yCy]at htg
   obtain⟨rfl,rfl⟩:=htg
   obtain⟨cs,e,hcs⟩:=(cY hf h1).aES
   exact⟨_,hcs.append (pL hf h2)⟩
  .simp at htg
  .simp at htg
 .simp at htg):G:=h
theorem bt(h:G:=by
 show w'.heap[b']?=_
 rw[h1 b' (λe'=>hs.inj i id b' hi hd e (by rw[e1];rfl) (by rw[e'];exact hb))]
 exact e2):G:=h
theorem bu(h:G:=by
 have hjl:j<xs.length:=by rw[<-hlen];exact(yA.1 hj).1
 have hjf:j<flx.length:=by omega
 obtain⟨ad,q3,q4,_⟩:=a6 j flx[j] (by simp[hjf])
 cases q3
 rw[aJm]at q4
 simp only[World.cell?,hg]at q4
 have GX:(xs.flatMap PD.cells)[j]?=some (.int .u8 x.toNat):=by
  rw[hxs,TZ,yAo,hj]
  rfl
 have:=(a7 j flx[j] _ (by simp[hjf]) GX).int_eq
 rw[this]at q4
 simpa using q4):G:=h
theorem bz(h:G:=by
 obtain⟨b2,rfl,_,_,j5⟩:=q1.qN
 rw[hρ]at j5
 simp only[Value.pointer.injEq,yAb,Addr.mk.injEq,and_true]at j5
 subst j5
 have hc0:c.w.cell? ⟨b,0,none⟩=some (.pointer (some ⟨b,0,none⟩)):=by simp[World.cell?,e2]
 refine Calls.mono (Any.Builder_copyCheck_used Tryz.aBE Tryz.aBF b c.w hc0) λe w' he=>?_
 obtain⟨rfl,rfl⟩:=he
 exact⟨c,rfl,rfl,hs,.refl _ _,.aI [] [] rfl (by simp),λ_ h=>.inl h⟩):G:=h
theorem cc(h:G:=by
 refine aIX hE hg (λo ho=>?_) k 0 _ _ _ _ ops.toList[k] (by simp) oJ (yAh hkl) ?_ (by simpa using b2) ?_
 .obtain⟨i,hi⟩:=yCH ho
  exact hr.shape i o (by simpa using hi)
 .unfold aHV at b1
  rw[yAh hkl]at b1
  exact b1
 .intro j o' hj ho'
  obtain⟨this,that⟩:=b3 j hj
  unfold eL at this that
  rw[ho']at this that
  exact⟨this,that⟩):G:=h
theorem cg(h:G:=by
 simp only
 omega):G:=h
theorem cj(h:G:=by
 refine⟨hs.fresh a h,λid o hd ho=>?_⟩
 have key:∀b,aW (c.ρ id)=some b->a.block≠b:=λb hb e=>by
  have:=hs.lt id b hd hb
  omega
 cases o with
 |none=>trivial
 |box p=>exact key
 |own e size n=>intro b hb e;exact absurd e (key b hb)
 |row e size ver ds=>exact key
 |map es=>trivial
 |mark=>trivial
 |loop st fr ps asg bd=>trivial):G:=h
theorem ck(h:G:=by
 refine aD b1 ?_
 simp(disch:=first|omega|(simp;done)|(simp;omega)) [yAu,tC]<;>try rfl
 exact⟨rfl,rfl⟩):G:=h
theorem cm(h:G:=by
 exact pD (by simp)):G:=h
theorem cq(h:G:=by
 refine⟨v,w',.inl ?_,hl⟩
 simp only[execOp,resolve,invoke,builtin,yAW,yBb,yBa]
 simp[r]):G:=h
theorem cr(h:G:=by
 have:(if cap=l then(some ⟨b,off,none⟩:Option Addr)else(some ⟨b,off,none⟩:Option Addr).map (·.add (l*n)))=some ⟨b,off+l*n,none⟩:=by
  split
  .have:l=0:=by omega
   subst this
   simp
  .simp[Addr.add]
 simp only[Instr.sliceAt,Instr.slice,yAW,yAN hu,yBa,yDt,b3,mF hn,yBb,this]):G:=h
theorem cu(h:G:=by
 obtain⟨h1,h2⟩:=h.ks p (by simp[hp])
 exact⟨by rw[yAd (yBd (hne p (by simp[hp])))];exact h1,h2⟩):G:=h
theorem cv(h:G:=by
 intro i j b hi hj hne hb hb'
 by_cases e':i=id
 .subst e'
  rw[nW]at hb
  rw[fM (yBd hne)]at hb'
  exact hoth j b hj (yBd hne) hb' hb
 .rw[fM e']at hb
  by_cases e'':j=id
  .subst e''
   rw[nW]at hb'
   exact hoth i b hi e' hb hb'
  .rw[fM e'']at hb'
   exact hs.inj i j b hi hj hne hb hb'):G:=h
theorem cw(h:G:=by
 refine cell (by simp only[fR,hu]) (λcs e=>?_)
 subst e
 simp[hu,Cell.okWide,Cell.ok]at hv):G:=h
theorem cy(h:G:=by
 exact aDP rfl (by simp(disch:=first|omega|(simp;done)|(simp;omega)) [dk0,dk1,dk2,dk3,WU,DD,DE,DF,DG,DH,DI,DJ,DK,DL,DM,DN,DO,DP,DR,DS,DT,DU,DV,N4,N5,N6,N7,N8,N9,S1,S2,S3,S4,S5,S6,wJ,pF,N3,uU,uV,uW,uX,uY,uZ,wY,wZ,xA,xB,xC,xD,xE,xF,xG,xH,xI,xJ,QE,QF,QG,QH,QI,QJ,aH7,aH8,aH9,aIa,aIb,aIc]<;>rfl)):G:=h
theorem cz(h:G:=by
 rw[h];simp[Em.list,Em.aA,sz]):G:=h
theorem dc(h:G:=by
 simp(disch:=first|omega|(simp;done)|(simp;omega)) [yAu,oO,z]<;>try rfl):G:=h
theorem di(h:G:=by
 repeat(first|refine aS.panic ?_|refine aO.panic ?_|refine aL.panic ?_)
 exact .inl ⟨_,rfl,rfl,⟨e,[.str [],.slice 0 [] .full,.slice 0 [] .full,.slice 0 [] .full],hE,rfl,rfl,rfl,rfl,rfl,rfl,pK (aC.length,_) (by simp),pK (aC.length+1,_) (by simp),pK (aC.length+2,_) (by simp),pk⟩⟩):G:=h
theorem dj(h:G:=by
 rename_i hne
 refine nR.wpIn (ih hF h hs hX hf hm hr m _ λc1 a1 e1 hs1 gQ eY jI=>?_)
 have:=hQ c1 a1 e1 hs1 gQ eY jI
 obtain⟨x',aH,ms1,σ1⟩:=r
 cases x' with
 |normal=>exact absurd h (hne _ _ _)
 |ret=>exact this
 |panic v=>exact this
 |exit k=>exact this):G:=h
theorem dm(h:G:=by
 simp(disch:=first|omega|(simp;done)|(simp;omega)) [yAu,hP]<;>try rfl):G:=h
theorem dw(h:G:=by
 apply yBS
 intro i
 simp only[Array.toList_modify,yAo,List.getElem?_modify,yCA,yAe]
 by_cases hij:j=i
 .subst hij
  have hlt:j<ents.toList.length:=(yA.1 g2).1
  simp only[g2,yAC,yAM,yAJ hlt];rfl
 .simp only[yAI hij,Option.map_map]
  cases ents.toList[i]?<;>simp):G:=h
theorem dx(h:G:=by
 simp only[hc]at h ⊢
 exfalso
 cases op with
 |box t x=>cases hop
 |call c=>
  obtain⟨callee,args,ts⟩:=c
  cases callee with
  |value f=>simp[pop,dB,cO]at h
  |invoke r m=>simp[cR]at hm
  |builtin b=>cases b<;>first|(simp[cR]at hm;done)|cases hop
 |_=>simp[cR]at hm):G:=h
theorem dy(h:G:=by
 exact⟨_,_,rfl,rfl,rfl⟩):G:=h
theorem dz(h:G:=by
 subst e
 rw[ho]at hoj;simp only[yAb]at hoj;subst hoj
 refine⟨?_,λhw=>?_,λhw=>?_⟩
 .simp[e1]
 .simp only[yAM]at hw ⊢
  simp only[yDw,yAO,e2]
  exact hrun hw
 .simp only[yAM]at hw ⊢
  simp only[yDw,yAO,e2]
  exact hskip hw):G:=h
theorem ec(h:G:=by
 refine aL.normal (m-1) (by omega) (by refine⟨i+1,?_⟩;exact bV (⟨by omega,hs⟩))):G:=h
theorem ef(h:G:=by
 simp(disch:=first|omega|(simp;done)|(simp;omega)) [yAu,<-hrest,bL]<;>try rfl):G:=h
theorem eg(h:G:=by
 exact⟨h,by simp,λa ha b hb e=>hs (by simp at hb;rw[<-hb,<-e];exact ha)⟩):G:=h
theorem ei(h:G:=by
 rw[hadd]
 refine ZJ (hs.fresh _ (yAk _)) (λid o hd ho hb=>?_)
 have:=hs.lt id _ hd hb
 simp at this):G:=h
theorem ek(h:G:=by
 simp(disch:=first|omega|(simp;done)|(simp;omega)) [yAu,<-hrest]<;>try rfl):G:=h
theorem ep(h:G:=by
 refine⟨v,w',.inl ?_,hl⟩
 simp only[execOp,resolve,invoke,builtin,yAW,yBb,yBa]
 simp[hx2,r]):G:=h
theorem eu(h:G:=by
 have hkm:k'%n<n:=yBj _ hn0
 have kP:k'%n<zv.cells.size:=by omega
 have hlt2:k'%n<z.cells.length:=by omega
 simp[hk,hzs,hlt2]at hv hd
 subst hv;subst hd
 exact hzc.2 (k'%n) _ _ (by simp[kP]) (by simp[hlt2])):G:=h
theorem ew(h:G:=by
 rw[yAo]at hd
 cases h0:ds[i]? with
 |none=>rw[h0]at hd;cases hd
 |some d0=>
  rw[h0]at hd
  simp only[yAC,yAb]at hd
  subst hd
  exact ih k (by omega) u d0 (h2 i u d0 hu h0) (VC hf (yAw.2 ⟨d0,yAE h0,rfl⟩))):G:=h
theorem ey(h:G:=by
 refine⟨h1,λm=>yBQ (h2 m) λe w' he=>?_⟩
 cases e with
 |returned v=>
  obtain⟨c',e1,e2,e3,e4,e5,e6⟩:=he
  exact⟨c',e1,e2,e3,e4,e5.strip,e6⟩
 |panicked ch=>exact he.elim
 |outgrown=>exact he.elim):G:=h
theorem ez(h:G:=by
 refine aL.normal (M-1) (by omega) (by refine⟨i+1,7,o++[⟨6,[10],0,(0,0),ln,(l.length:Int)+1⟩],bP,σ3,?_⟩;exact bV (⟨by omega,by rw[yDD,yDE,hln];exact jL,.inr rfl,by simpa using hr',hk0,by rw[yAa,yBh];omega⟩))):G:=h
theorem ff(h:G:=by
 simp(disch:=first|omega|(simp;done)|(simp;omega)) [yAu,hf,bL]<;>try rfl):G:=h
theorem fh(h:G:=by
 exact hE.ret hF hg hgo hs hX hv):G:=h
theorem fj(h:G:=by
 have:(⟨b,off,none⟩:Addr).add (z.toNat*n)=⟨b,off+z.toNat*n,none⟩:=by unfold Addr.add;split<;>simp_all
 have hz:z<(len:Int):=by omega
 simp[Instr.indexAt,asIntOf,yAN hu,Instr.sureAddr,h0,hz,mF hn,this]):G:=h
theorem fk(h:G:=by
 split at hst
 .split at hst
  .split at hst
   .simp only[yAb]at hst;subst hst;simp
   .cases hst
  .cases hst
 .cases hst):G:=h
theorem fm(h:G:=by
 simp(disch:=first|omega|(simp;done)|(simp;omega)) [yAu,hT]<;>try rfl):G:=h
theorem fo(h:G:=by
 rcases h4 id e3 with h6|h6
 .exact hd id e1 h6
 .rcases h5.row with⟨_,h7⟩ | ⟨_,id',h7,h8⟩
  .rw[h7]at e1;cases e1
  .rw[h7]at e1
   simp only[Tok.own.injEq]at e1
   have:=(yA.1 h8).1
   omega):G:=h
theorem fq(h:G:=by
 exact⟨v,by simp[execOp,r],q⟩):G:=h
theorem fu(h:G:=by
 obtain⟨c',rfl,rfl,hs',nx,hv,_⟩:=hl
 exact ih (i+1) xV hs' (hX.next hs nx) ((hf.mono nx).put hv _) h
  (λMZ mT e1 e2 e3 e4 e5=>hQ MZ mT e1 e2 (nx.trans e3) e4 (e5.trans (by cases o.dst<;>rfl)))):G:=h
theorem fy(h:G:=by
 unfold HY
 generalize k%5=j at hlt
 match j,hlt with
 |0,_=>exact hx.2.2.2.2.1
 |1,_=>exact hx.2.2.2.2.2.1
 |2,_=>exact hx.2.2.2.2.2.2.1
 |3,_=>exact hx.2.2.2.2.2.2.2.1
 |4,_=>exact hx.2.2.2.2.2.2.2.2):G:=h
theorem ga(h:G:=by
 simp only[yAb,yAc]at hp ⊢
 obtain⟨rfl,rfl⟩:=hp
 exact⟨⟨rfl,rfl⟩,rfl⟩):G:=h
theorem gh(h:G:=by
 refine aL.normal (m-1) (by omega) (by refine⟨k+1,?_⟩;exact bV (⟨by omega,by omega,hkB⟩))):G:=h
theorem gl(h:G:=by
 have:(⟨b,off,none⟩:Addr).add (z.toNat*n)=⟨b,off+z.toNat*n,none⟩:=by unfold Addr.add;split<;>simp_all
 have hz:z<(m':Int):=by omega
 simp[Instr.indexAt,asIntOf,yAN hu,h0,hz,mF hn,this]):G:=h
theorem gm(h:G:=by
 rename_i hw
 rw[yAI hw]
 refine⟨λf _=>hF.fn f,?_⟩
 exact ih (i+1) xV hs hX (hf.put (VR.undef c) _) h
  (λMZ mT e1 e2 e3 e4 e5=>hQ MZ mT e1 e2 e3 e4 (e5.trans (by cases o.dst<;>rfl)))):G:=h
theorem gq(h:G:=by
 exact aDP rfl (by simp(disch:=first|omega|(simp;done)|(simp;omega)) [dk0,dk1,dk2,dk3,WU,DD,DE,DF,DG,DH,DI,DJ,DK,DL,DM,DN,DO,DP,DR,DS,DT,DU,DV,N4,N5,N6,N7,N8,N9,S1,S2,S3,S4,S5,S6,wJ,pF,N3]<;>rfl)):G:=h
theorem gu(h:G:=by
 rename_i oL aH σ2 hrec
 simp only[yAb,yAc]at h
 obtain⟨rfl,rfl,rfl⟩:=h
 exact lift p σ1 _ oL hrec rfl (λ_=>⟨by rw[<-hk];exact hp,rfl⟩) (λhf=>by rw[hw]at hf;cases hf)):G:=h
theorem gv(h:G:=by
 simp only[yAn,yAY,yBi,yBu]at hm'
 have:=hm' i hi
 rw[eL,ho]at this
 simpa [EN]using this):G:=h
theorem gw(h:G:=by
 intro i b hi hb hlt
 by_cases e':i=id
 .subst e'
  rw[nW]at hb
  rcases h3 with h3|h3
  .exact⟨hi,by rw[<-h3];exact hb⟩
  .have:=h3 b hb;omega
 .rw[fM e']at hb;exact⟨hi,hb⟩):G:=h
theorem gy(h:G:=by
 split at hs
 .split at hs
  .split at hs
   .simp only[yAb]at hs
    exact⟨id,_,by simp[nL,h1,j7],hs.symm⟩
   .simp at hs
  .simp at hs
 .simp at hs):G:=h
theorem gz(h:G:=by
 obtain⟨j,hj,rfl⟩:=yAw.1 h
 have hj':=yAY.1 hj
 exact⟨_,aEj (by omega) _,j,hj',rfl⟩):G:=h
theorem gI(h:G:=by
 obtain⟨q1,q2⟩:=aKM hb
 cases hx<;>cases hy<;>first|(exact absurd rfl (q1 _))|(exact absurd rfl (q2 _))|rfl|(exact(n1 _ _ _ _ rfl rfl).elim)|(exact(n2 _ _ rfl rfl).elim)):G:=h
theorem gJ(h:G:=by
 unfold bS at h1 ⊢
 cases hg:l[n]? with
 |none=>rfl
 |some t=>
  simp only[hg]at h1 ⊢
  split
  .rename_i h2;rw[yAJ h2]at h1;exact absurd rfl h1
  .rfl):G:=h
theorem ic(h:G:=by
 exact⟨by simp,by simp,by simp⟩):G:=h
theorem ig(h:G:=by
 refine⟨.int .i64 n,?_,.int _ _⟩
 simp[builtin,Builtin.len_,ht,hv,yAN hu,goInt]):G:=h
theorem ij(h:G:=by
 refine aL.normal ((rest.drop 1).length) (by omega) ⟨z,f,rest.drop 1,cA+1,o,tok,_,bV (⟨rfl,by omega,hli,fU,oS,by rw[FD];exact hb0,hsetq _,aCU,by omega,by omega⟩)⟩):G:=h
theorem iq(h:G:=by
 refine aD hq ?_
 refine WL.eE 4 (by rfl) (by rfl) ?_
 refine aLc trivial ?_
 apply SQ.nil
 refine dH.op (.i (by rfl)) (by rfl) (by rfl) ?_
 exact .inl ⟨_,rfl,rfl,hp⟩):G:=h
theorem ir(h:G:=by
 exact⟨v,c.w,.inl (by simp[execOp,r]),c,rfl,rfl,hs,.refl _ _,hv,λ_ h=>.inl h⟩):G:=h
theorem iu(h:G:=by
 simp only[e1]
 rw[dC h]
 rfl):G:=h
theorem iw(h:G:=by
 simp[iZ,jA,jB,jC,jD,jE,u1,v1,w1]
 exact⟨_,_,⟨rfl,rfl⟩,h1.lK hs rfl hr (H7 hP)⟩):G:=h
theorem iz(h:G:=by
 intro j hj hlt
 by_cases e:j=i
 .subst e
  simp[htr]
 .simp only[yAI e]
  rw[h6 j (by omega) (by simp at hlt;omega),htr,show j-i=(j-(i+1))+1 by omega,yBT]):G:=h
theorem ja(h:G:=by
 rename_i oL aH σ2 hrec
 simp only[yAb,yAc]at h
 obtain⟨rfl,rfl,rfl⟩:=h
 exact lift (.aI []) σ none oL hrec rfl (λht=>absurd ht hw) (λ_=>⟨rfl,rfl⟩)):G:=h
theorem jb(h:G:=by
 obtain⟨callee,args,ts⟩:=c
 cases callee with
 |builtin b=>cases b<;>first|rfl|(rw[hq]at hop;cases hop)
 |value f=>rfl
 |invoke r m=>rfl):G:=h
theorem jc(h:G:=by
 rcases Nat.le_total ys.length n with h|h
 .rw[show Nat.min ys.length n=ys.length from yCC h,yBz,yAz h]
 .rw[show Nat.min ys.length n=n from Nat.min_eq_right h]):G:=h
theorem jd(h:G:=by
 refine aJ.aV 31 h0 func13 (h:=?_)
 refine aD (A13 h1 h2 @a @a2 @b b2 @c @e hM hG @w q1 @q) ?_
 simp(disch:=first|omega|(simp;done)|(simp;omega)) [yAu,q]<;>try rfl):G:=h
theorem je(h:G:=by
 rw[yAo]at h1 h2
 cases hj:l[j]? with
 |none=>rw[hj]at h1;simp at h1
 |some b=>
  rw[hj]at h1 h2
  simp only[yAC,yAb]at h1 h2
  subst h1 h2
  exact .int _ _):G:=h
theorem jf(h:G:=by
 simp[IntKind.wrap,IntKind.min,IntKind.max,IntKind.signed,IntKind.bits]
 try omega):G:=h
theorem jg(h:G:=by
 intro i hi
 simp only[Cx.put,yAD]
 exact hs.aZ i hi):G:=h
theorem jh(h:G:=by
 obtain⟨r,h1,h2,h3,h4⟩:=(key _ rfl _ _ rfl).ex
 exact⟨_,_,_,_,_,_,_,_,_,_,_,_,_,r,func85,rfl,rfl,rfl,by simp[show Tryz.f85.ntmps=_ from rfl],h1,h2,h3,h4⟩):G:=h
theorem ji(h:G:=by
 cases e';exact h9):G:=h
theorem jj(h:G:=by
 by_cases e:i=id
 .subst e;exact nW
 .exact fM e):G:=h
theorem jk(h:G:=by
 rw[yAo]at hd
 cases hx:ds[i]? with
 |none=>rw[hx]at hd;simp at hd
 |some x=>
  rw[hx]at hd;simp only[yAC,yAb]at hd;subst hd
  exact ih i v x hv hx):G:=h
theorem jl(h:G:=by
 cases a1.defers with
 |nil=>intro _;rfl
 |cons d ds=>intro h;exact h):G:=h
theorem jm(h:G:=by
 obtain⟨b,_,rfl⟩:=yAw.1 hv
 rfl):G:=h
theorem jn(h:G:=by
 simp(disch:=first|omega|(simp;done)|(simp;omega)) [yAu,hfS]<;>try rfl):G:=h
theorem jo(h:G:=by
 refine⟨.int .i64 (Nat.min ys.length n),w',?_,_,rfl,rfl,hs',hn',.int _ _,λi hi=>.inl hi⟩
 simp[Builtin.copy_,yAN hu,r2,hsize,r1,goInt,hst]):G:=h
theorem jq(h:G:=by
 rw[fS.1]at hq
 simp only[yAb,U.row.injEq]at hq
 obtain⟨rfl,rfl,rfl,rfl⟩:=hq
 exact⟨yAk _,λ_=>⟨rfl,C,fS.2.1,by simp⟩⟩):G:=h
theorem jr(h:G:=by
 unfold lG
 rw[yAI (by omega)]):G:=h
theorem js(h:G:=by
 have:(σ.set id z).length=σ.length:=by simp
 rw[<-this]
 simp):G:=h
theorem jt(h:G:=by
 refine .inr ⟨hne,rfl,σ.length,rfl,?_⟩
 rw[yAd (by omega),List.getElem?_append_right (by rw[yAD];exact yAk _),yAD,Nat.sub_self]
 simp):G:=h
theorem ju(h:G:=by
 obtain⟨N,h⟩:=h
 exact .step (N:=N) λn hn=>by
  simp only[gP,h n hn]
  obtain⟨x,a,b,c⟩:=r
  cases x<;>first|exact absurd rfl hr|rfl):G:=h
theorem jw(h:G:=by
 simp(disch:=first|omega|(simp;done)|(simp;omega)) [yAu,hm]<;>try rfl):G:=h
theorem jx(h:G:=by
 exact PU (by omega)):G:=h
theorem jy(h:G:=by
 have:=Leaves.of (p:=.bool false) (v:=.bool false) Y8 (aEW.trans Y9) (.bool false)
 rw[w4,e4,e3]at this
 exact this):G:=h
theorem jz(h:G:=by
 cases i with
 |zero=>simp at hv hd;subst hv;subst hd;exact a1
 |succ i=>exact b2 i v' d (by simpa using hv) (by simpa using hd)):G:=h
theorem kf(h:G:=by
 obtain⟨rfl,rfl⟩:=he
 have hgr:=aBH c.w
 exact⟨c.at c.w.drew,rfl,rfl,hs.grow hgr,Nx.grow hs hgr,.str [],λ_ h=>.inl h⟩):G:=h
theorem kg(h:G:=by
 obtain⟨x,hx⟩:=hpre
 have hxl:=yAP List.length hx
 rw[yAa]at hxl
 have:x=[]:=yAf (by omega)
 rw[hx,this,yAl]):G:=h
theorem ki(h:G:=by
 rcases h3 with h3|h3
 .exact hs.inj i id b hi hd hne hb (by rw[<-h3];exact hb')
 .have:=h3 b hb'
  have:=hs.lt i b hi hb
  omega):G:=h
theorem kj(h:G:=by
 have hne:i+(o::rest).length≠i:=by simp
 simp only[yAI hne]
 rw[show i+(o::rest).length=i+1+rest.length by simp;omega];exact e3):G:=h
theorem ko(h:G:=by
 have hne:i+(o::rest).length≠i:=by simp
 simp only[yAI hne]
 rw[show i+(o::rest).length=i+1+rest.length by simp;omega];exact e4):G:=h
theorem kr(h:G:=by
 obtain⟨ad,q1,q2,_⟩:=a6 j v hj
 exact⟨ad,q1,q2⟩):G:=h
theorem ku(h:G:=by
 obtain⟨a1,a2⟩:=hS.ks p hp
 obtain⟨o,ho⟩:=hK p hp
 rw[ho]at a1
 refine⟨?_,a2⟩
 rw[ho]
 exact h3 _ _ (KM h.row a1) a1):G:=h
theorem kz(h:G:=by
 simp only
 cases hpo:o7 E fl fr σ o.op with
 |none=>rfl
 |some z=>
  rw[aOr hpo,hd]at hp
  cases hp):G:=h
theorem ld(h:G:=by
 intro i b hi hb
 by_cases e':i=id
 .subst e';rw[nW]at hb;exact h5 b hb
 .rw[fM e']at hb;exact yBO (hs.lt i b hi hb) h0.2.2.2):G:=h
theorem lf(h:G:=by
 obtain⟨N,h⟩:=h
 obtain⟨M,k⟩:=k
 exact .step (N:=max N M) λn hn=>by simp only[gP,h n (by omega)];exact k n (by omega)):G:=h
theorem lg(h:G:=by
 refine aL.normal (M-1) (by omega) ⟨i+1,z,o,tok,_,bV (⟨by omega,by rw[hoo,yDD,yDE,hln];exact jL,fU,dZ,hb0,aCU⟩)⟩):G:=h
theorem lp(h:G:=by
 apply SQ.nil
 exact IA.call (.i (by rfl)) (by rfl) (by rfl) hghQ hqhQ e4 (hphQ _ _ _ (by have:=yBE.2 hne;omega)) w4w):G:=h
theorem lu(h:G:=by
 simp only[World.cell?,e2]
 rw[yAv]at hj
 split at hj
 .rw[yBy]at hj
  simpa using hj
 .cases hj):G:=h
theorem lz(h:G:=by
 refine aD (A9 h1 h2 h3 ht hd s6 hP hs hq) ?_
 simp(disch:=first|omega|(simp;done)|(simp;omega)) [yAu,hn]<;>try rfl):G:=h
theorem lY(h:G:=by
 intro b hb
 rcases yBv.1 hb with hb|hb
 .exact f5 b hb
 .simp only[yBY]at hb
  subst hb
  decide):G:=h
theorem mb(h:G:=by
 obtain⟨k,_,rfl⟩:=hv
 have kP:k%zv.cells.size<zv.cells.size:=yBj _ (by omega)
 apply hz1
 simp[kP]):G:=h
theorem mc(h:G:=by
 apply SQ.nil
 refine aD trivial ?_
 simp(disch:=first|omega|(simp;done)|(simp;omega)) [yAu,HN,aNx,sz]<;>try rfl):G:=h
theorem me(h:G:=by
 obtain⟨b1,b2,e1,e2,e3,e4,e5⟩:=key _ xs ys h
 exact⟨b1,b2,e1,e2,e3,by simpa using e4,by simpa using e5⟩):G:=h
theorem mg(h:G:=by
 have:ops.toList[i]?=some o:=by
  have:=yAP List.head? hdrop
  simpa [yCd]using this
 rw[<-yCi];exact this):G:=h
theorem mh(h:G:=by
 simp only[yAb,yAc]at h;exact h.2.symm):G:=h
theorem mj(h:G:=by
 have:kX P call fl ops fr σ=some (fr',σ'):=by
  unfold kX
  simp only[hr,yAM,hh,hd,hf]
 unfold iO
 rw[this]):G:=h
theorem mo(h:G:=by
 rw[yCW,yAH]
 congr 1
 simp[yAA,hi,ha]):G:=h
theorem mq(h:G:=by
 simp only[dX,hu,hi,hi1,hi2,KU,hi4]
 rw[if_pos ⟨.inl rfl,hzl,by omega,trivial,hmm,hbb⟩,if_neg hll,yAD]):G:=h
theorem mu(h:G:=by
 cases e with
 |returned v=>exact hK v w'' he
 |panicked chain=>exact hR _ _ he
 |outgrown=>exact he.elim):G:=h
theorem mw(h:G:=by
 intro i p hi hp
 have e':i≠id:=by rintro rfl;rw[hq]at hp;cases hp
 exact⟨fM e',p,by rw[dG e'];exact hp⟩):G:=h
theorem mz(h:G:=by
 exact⟨v,by simp[Instr.loadAt,Instr.sureAddr,r],q⟩):G:=h
theorem ng(h:G:=by
 exact YR hU l (i+1) _ _ _ ho.2 h):G:=h
theorem nh(h:G:=by
 refine aD (A6 h1 hF @b @w @c @e) ?_
 simp(disch:=first|omega|(simp;done)|(simp;omega)) [yAu,b,c,e]<;>try rfl):G:=h
theorem ni(h:G:=by
 refine aL.normal (m-1) (by omega) (by refine⟨i+1,lF,?_⟩;exact bV (⟨by omega,by rw[hst];exact hs⟩))):G:=h
theorem nj(h:G:=by
 simp only[execOp,resolve,e,Deferred.ofValue,yAW,yBb,yBa,invoke,callFunc,run_program,hfn,hn,hb',yAx,yAO,e2]):G:=h
theorem nk(h:G:=by
 split at h
 .rename_i hx
  have:=hx.choose_spec
  simp only[yAb]at h
  rw[h]at this
  exact this
 .cases h):G:=h
theorem nq(h:G:=by
 intro i hi hn
 have e':i≠id:=by rintro rfl;rw[hq]at hn;exact hn
 exact⟨fM e',by rw[dG e'];exact hn⟩):G:=h
theorem nt(h:G:=by
 simp only[Instr.storeAt,Instr.sureAddr,yAW,yBb,yBa,storeVar,mF hn,hsz,ne_eq,yBr,yAO]
 exact hst):G:=h
theorem nw(h:G:=by
 rw[hY]at hst ⊢
 refine aD q1 ?_
 simp(disch:=first|omega|(simp;done)|(simp;omega)) [yAu,hst]<;>try rfl):G:=h
theorem ny(h:G:=by
 simp only at h ⊢
 split at h
 .rename_i p σ1 hp
  rw[QQ hp]
  exact aBR h
 .cases h):G:=h
theorem oa(h:G:=by
 rcases hS.rd with h5 | ⟨id,e1,h5⟩
 .exact .inl h5
 .exact .inr ⟨id,e1,h3 _ _ (KM h.row h5) h5⟩):G:=h
theorem ob(h:G:=by
 refine aD (A3 @a @b @c) ?_
 simp(disch:=first|omega|(simp;done)|(simp;omega)) [yAu,rF,a,b,c]<;>try rfl):G:=h
theorem oe(h:G:=by
 apply SQ.nil
 refine aD q1 ?_
 simp(disch:=first|omega|(simp;done)|(simp;omega)) [yAu,he]<;>try rfl):G:=h
theorem og(h:G:=by
 intro i hi _
 exact dG (by omega)):G:=h
theorem oh(h:G:=by
 obtain⟨e,he,hb⟩:=Array.any_eq_true'.1 this
 simp only[yAr,yBI]at hb
 exact⟨e,he,hb.1,hb.2⟩):G:=h
theorem om(h:G:=by
 refine aD (A3 @a @b @c) ?_
 simp(disch:=first|omega|(simp;done)|(simp;omega)) [yAu,kB,a,b,c]<;>try rfl):G:=h
theorem oq(h:G:=by
 simp only[yBD,yCD]at h1
 simp only[pT,List.getD_cons_zero]at h2
 exact cG.aKY hρ h1 h2):G:=h
theorem ot(h:G:=by
 have:=fin 0 (by omega)
 simp only[yAp,yAQ,Array.empty_append]at this ⊢
 exact⟨_,_,_,hr,this⟩):G:=h
theorem ou(h:G:=by
 unfold lG
 rw[yAJ (by omega)]):G:=h
theorem ov(h:G:=by
 split at h
 .split at h
  .simp only[PD.typed.injEq]at h;exact h.1
  .cases h
 .subst h;cases hv):G:=h
theorem ow(h:G:=by
 have e2:aT fr (.const .nilIface)=some (.bG .nilIface):=rfl
 simp only[bK,dO,pop,dB,cS hx,e2,e,UA,hu]):G:=h
theorem oz(h:G:=by
 refine aD (A2 @a @c) ?_
 simp(disch:=first|omega|(simp;done)|(simp;omega)) [yAu,rF,a,c]<;>try rfl):G:=h
theorem pg(h:G:=by
 refine aD (A2 @a @b) ?_
 simp(disch:=first|omega|(simp;done)|(simp;omega)) [yAu,kT,a,b]<;>try rfl):G:=h
theorem pq(h:G:=by
 refine aD (A2 @a @b) ?_
 simp(disch:=first|omega|(simp;done)|(simp;omega)) [yAu,a,b]<;>try rfl):G:=h
theorem pz(h:G:=by
 have e:jW.dec (.int .u8 f)=some f:=Em.cJ rfl
 unfold entry aY
 simp only[e]
 rw[dC hf]
 rfl):G:=h
theorem qc(h:G:=by
 simp[Instr.sliceAt,Instr.slice,yAN hu,b3,mF hn]):G:=h
theorem qd(h:G:=by
 rcases yBF i ops.toList.length with h' | h'
 .exact h'
 .rw[yAs h']at hdrop;cases hdrop):G:=h
theorem qe(h:G:=by
 simp
 exact⟨_,_,⟨rfl,rfl⟩,hfin _ _⟩):G:=h
theorem qf(h:G:=by
 simp only[e1]
 rw[dC h,hS]
 rfl):G:=h
theorem qg(h:G:=by
 exact⟨v,by simp[hg,r],q⟩):G:=h
theorem qh(h:G:=by
 have:=pP ho
 have h2:ops.toList.length<=i:=List.drop_eq_nil_iff.1 hdrop
 simp at h2;omega):G:=h
theorem qi(h:G:=by
 cases A<;>simp[Builtin.append_,yAN hu,sizeOf,typeInfo,hi,Builtin.lenOf,hfy,hn,storeCells]):G:=h
theorem qj(h:G:=by
 split at h
 .simp only[yAb,yAc]at h
  obtain⟨rfl,_,_⟩:=h
  rfl
 .cases h):G:=h
theorem qk(h:G:=by
 cases cO P fl fr σ op with
 |none=>rfl
 |some x=>obtain⟨p,σ'⟩:=x;simp[aCy,aLp]):G:=h
theorem ql(h:G:=by
 subst this
 simp[Builtin.firstCells]):G:=h
theorem qm(h:G:=by
 simp only[PD.cells]at hdm
 simp only[PD.bW,PD.G2]at hxf
 exact yAn.1 hxf d hdm):G:=h
theorem qn(h:G:=by
 show(Instr.checkKey e (9999+1) kt _).run P w=_
 unfold Instr.checkKey
 simp[yAN hu]):G:=h
theorem qo(h:G:=by
 simp only[yAb,yAc]at hp ⊢
 exact⟨⟨hp.1,by rw[hp.2]⟩,by rw[hp.2]⟩):G:=h
theorem qp(h:G:=by
 simp only[yAa,yBh]
 omega):G:=h
theorem qq(h:G:=by
 obtain⟨a1,a2,o,a3⟩:=h.ks p hp
 rw[a3]at a1 ⊢
 exact⟨h3 _ _ a2 a1,a2,o,rfl⟩):G:=h
theorem qt(h:G:=by
 rename_i hx
 have e:=(cY hf hx).OY
 exact⟨_,by simp[execOp,e,asBool],cY hf h⟩):G:=h
theorem qu(h:G:=by
 rintro rfl
 rw[eZ (hs.aZ i hd)]at hi'
 simp only[yAb]at hi';subst hi';exact hn'):G:=h
theorem qv(h:G:=by
 cases b1 with
 |true=>simpa [e3]using q2
 |false=>simp[e3]):G:=h
theorem qw(h:G:=by
 exact⟨p1,σ1,by simpa [PD.strip]using e1,e2,by simp[PD.strip,PD.eV,PD.bW],rfl⟩):G:=h
theorem qx(h:G:=by
 simp(disch:=first|omega|(simp;done)|(simp;omega)) [yAu,<-jL,hxs,aNg]<;>try rfl):G:=h
theorem qy(h:G:=by
 exact aBy hU l (i+1) _ _ _ hd' hm ht h):G:=h
theorem qz(h:G:=by
 intro i j b' hi hj hne h5 h6
 rw[hρ]at h5 h6
 exact hs.inj i j b' hi hj hne h5 h6):G:=h
theorem ri(h:G:=by
 simp only[yBG]at e
 rw[e.1]
 rfl):G:=h
theorem rj(h:G:=by
 exact⟨.pointer (some ⟨b,off,none⟩),by simp[execOp,e],by rw[<-e];exact hv⟩):G:=h
theorem rm(h:G:=by
 rw[hu]at hv
 obtain⟨cs,e,_⟩:=hv
 exact row (by simp only[fR,hu]) ⟨cs,e⟩):G:=h
theorem rq(h:G:=by
 apply SQ.nil
 simp[PD.marked,PD.Q4]):G:=h
theorem ru(h:G:=by
 simp only[HH,hb]
 rw[dC ⟨yAF _,hp⟩,ha]
 simp only
 rw[dC (hs2 _ _)]):G:=h
theorem rz(h:G:=by
 simp only[yBf]at hz
 exact aJC h1 (by rw[h2,hlen]) (by omega)):G:=h
theorem sj(h:G:=by
 simp only[yAb,yAc]at h
 obtain⟨rfl,rfl⟩:=h
 exact⟨rfl,more _⟩):G:=h
theorem so(h:G:=by
 have:s=⟨s.data.toList.toArray⟩:=by simp
 conv=>lhs;rw[this]
 exact .str _):G:=h
theorem su(h:G:=by
 exact Nx.J4 hs hd hq hr hfl ⟨rfl,rfl,rfl,by simp⟩ (λk hk=>yCk _ _ _ _ hk)):G:=h
theorem sw(h:G:=by
 simp(disch:=first|omega|(simp;done)|(simp;omega)) [yAu,hp,e4]<;>try rfl):G:=h
theorem tc(h:G:=by
 intro b hb
 rcases yAS.1 hb with rfl|hb
 .decide
 .exact hd v b hb):G:=h
theorem td(h:G:=by
 have:(j+1)*n<=(j+1+qs.length)*n:=yBU _ (by omega)
 rw[yBs]at this;omega):G:=h
theorem tf(h:G:=by
 simp(disch:=first|omega|(simp;done)|(simp;omega)) [yAu,<-jL,aNf]<;>try rfl):G:=h
theorem tj(h:G:=by
 cases K with
 |nil=>exact absurd rfl hK0
 |cons x K'=>exact⟨x,K',rfl⟩):G:=h
theorem tq(h:G:=by
 obtain⟨r,h1,p1,σ1,h2,h3⟩:=h.ex
 exact⟨p1,σ1,.body hE hf hb h1 h2,h3⟩):G:=h
theorem tv(h:G:=by
 rw[yAJ h1]
 exact⟨λe=>absurd e h1,λe=>absurd (e.1 r (yAZ ..)) h1⟩):G:=h
theorem tw(h:G:=by
 obtain⟨ad,e',_⟩:=a6 0 flx[0] (by simp[this])
 cases e'):G:=h
theorem uc(h:G:=by
 rcases hsz with h0|h0
 .rw[a4,h0];simp
 .rw[a4,h0]):G:=h
theorem ud(h:G:=by
 exact⟨xs,O6 hx (λg hg=>h.block g (hs.lt id g hd hg) (by simp))⟩):G:=h
theorem ue(h:G:=by
 rcases h4 id e1 with h5|h5
 .exact h.ge id h5
 .rw[h5];exact hS.len):G:=h
theorem uf(h:G:=by
 exact⟨_,_,⟨rfl,rfl⟩,EF.lK hs hdd hr (by rw[hfin];exact H7 hP)⟩):G:=h
theorem ug(h:G:=by
 exact .agg cs ds hl h1 (λi v d hv hd=>ih i v d hv hd (at_ hp hd))):G:=h
theorem uh(h:G:=by
 simp only[yAb]at h ⊢
 subst h
 rw[yCI _ _ hlt]):G:=h
theorem uj(h:G:=by
 refine aD (A2 h1 hp) ?_
 simp
 exact⟨_,_,⟨rfl,rfl⟩,hpost _⟩):G:=h
theorem uk(h:G:=by
 simp only[yAb]at ho
 exact⟨_,_,_,ho.symm,hj⟩):G:=h
theorem um(h:G:=by
 simp only[yAb,yAc]at hrun ⊢
 exact⟨hrun.1,trivial⟩):G:=h
theorem uo(h:G:=by
 exact .aI cs ds hl (λi v d hv hd=>ih i v d hv hd (at_ hp hd))):G:=h
theorem uq(h:G:=by
 obtain⟨rfl,rfl⟩:=he
 exact⟨_,rfl,aBI _,λ_=>.int _ _⟩):G:=h
theorem ur(h:G:=by
 simp only[yAb]at h;subst h
 exact⟨by simpa [PD.cells],rfl⟩):G:=h
theorem uu(h:G:=by
 rw[yAJ h1]
 exact⟨λe=>absurd e h1,λe=>absurd e.1 h1⟩):G:=h
theorem uv(h:G:=by
 simp[PD.cells]at h1 h2
 subst h1 h2
 exact hp):G:=h
theorem uw(h:G:=by
 simp[PD.cells]at h1 h2
 subst h1 h2
 exact q2):G:=h
theorem ux(h:G:=by
 first|refine WL.bD 1 (by rfl) (by rfl) ?_|refine WL.eE 1 (by rfl) (by rfl) ?_
 refine bM (A12 kF kG kH kI kJ kK pZ qA qB qC qD qE) ?_
 apply SQ.nil
 refine dH.call (.i (by rfl)) (by rfl) (by rfl) hghN hqhN e1 w1 ?_
 exact af):G:=h
theorem uy(h:G:=by
 first|refine WL.bD 1 (by rfl) (by rfl) ?_|refine WL.eE 1 (by rfl) (by rfl) ?_
 refine bM (A6 kF kG kH kI kJ kK) ?_
 apply SQ.nil
 refine dH.call (.i (by rfl)) (by rfl) (by rfl) hghC hqhC e1 w1 ?_
 exact af):G:=h
theorem uz(h:G:=by
 first|refine WL.bD 1 (by rfl) (by rfl) ?_|refine WL.eE 1 (by rfl) (by rfl) ?_
 refine bM (A3 LC LD H8) ?_
 apply SQ.nil
 refine dH.call (.i (by rfl)) (by rfl) (by rfl) hgX hqX f2 f3 ?_
 exact af):G:=h
theorem vc(h:G:=by
 intro i st fr ps asg bd hi hm
 have e':i≠id:=by rintro rfl;rw[eZ (hs.aZ i hd)]at hm;cases hm
 rw[dG e']at hm
 obtain⟨b',r,e1,e2,e3,e4,e5,e6,e7⟩:=hs.loop i st fr ps asg bd hi hm
 refine⟨b',r,(fM e').trans e1,?_,e3,e4,e5,e6.mono nx,e7⟩
 exact an):G:=h
theorem ve(h:G:=by
 first|refine WL.bD 1 (by rfl) (by rfl) ?_|refine WL.eE 1 (by rfl) (by rfl) ?_
 refine bM (A18 rK rL rM rN rO rP rQ rR rS rT rU rV y7 y8 y9 zA zB zC) ?_
 apply SQ.nil
 refine dH.call (.i (by rfl)) (by rfl) (by rfl) hghK hqhK e3 w3 ?_
 exact af):G:=h
theorem vf(h:G:=by
 first|refine WL.bD 1 (by rfl) (by rfl) ?_|refine WL.eE 1 (by rfl) (by rfl) ?_
 refine bM (A18 rW rX rY rZ sA sB sC sD sE sF sG sH tQ tR tS tT tU tV) ?_
 apply SQ.nil
 refine dH.call (.i (by rfl)) (by rfl) (by rfl) hghK hqhK e7 w7 ?_
 exact af):G:=h
theorem vg(h:G:=by
 first|refine WL.bD 1 (by rfl) (by rfl) ?_|refine WL.eE 1 (by rfl) (by rfl) ?_
 refine bM (A18 BI BJ BK BL BM BN BO BP BQ BR BS BT BU BV BW BY BZ B0) ?_
 apply SQ.nil
 refine dH.call (.i (by rfl)) (by rfl) (by rfl) hghM hqhM u6 oX ?_
 exact af):G:=h
theorem vh(h:G:=by
 intro i es hi ho
 have e':i≠id:=by rintro rfl;rw[eZ (hs.aZ i hd)]at ho;cases ho
 rw[dG e']at ho
 obtain⟨b',ents,clock,e1,e2,e3,e4⟩:=hs.map i es hi ho
 refine⟨b',ents,clock,(fM e').trans e1,?_,e3.mono nx,e4.mono nx⟩
 exact an):G:=h
theorem vj(h:G:=by
 intro i p hi hp
 have e':i≠id:=by rintro rfl;rw[eZ (hs.aZ i hd)]at hp;cases hp
 rw[dG e']at hp
 obtain⟨b',cs',T',e1,e2,e3,e4⟩:=hs.box i p hi hp
 refine⟨b',cs',T',(fM e').trans e1,?_,e3.mono nx,e4⟩
 exact an):G:=h
theorem vl(h:G:=by
 refine aD trivial ?_
 exact aa):G:=h
theorem vm(h:G:=by
 refine aD q1 ?_
 exact au):G:=h
theorem vn(h:G:=by
 intro i hi hm
 have e':i≠id:=by rintro rfl;rw[eZ (hs.aZ i hd)]at hm;cases hm
 rw[dG e']at hm
 obtain⟨b',e1,e2⟩:=hs.mark i hi hm
 refine⟨b',(fM e').trans e1,?_⟩
 exact an):G:=h
theorem vo(h:G:=by
 split at h
 .rename_i hw
  split at h
  .rename_i p σ1 hp
   split at h
   .exact gu
   .exact ah
  .exact ah
 .rename_i hw
  split at h
  .exact ja
  .exact ah):G:=h
theorem vp(h:G:=by
 have:=yAP List.head? hd
 rw[yCd]at this
 exact bp):G:=h
theorem vr(h:G:=by
 rcases hz with h|h
 .rw[h];rfl
 .exact cz):G:=h
theorem vt(h:G:=by
 split at h
 .rename_i q hq;exact(yA.1 hq).1
 .exact ah):G:=h
theorem vu(h:G:=by
 have:=yAP List.head? hdrop
 rw[yCd]at this
 exact bp):G:=h
theorem vw(h:G:=by
 have yZ:A=[]:=yAf hlen
 subst yZ
 have hT0:T=0:=by rw[<-hs];rfl
 subst hT0
 refine aD @hlen ?_
 exact dy):G:=h
theorem vz(h:G:=by
 refine aD (A2 h1 hE) ?_
 exact aa):G:=h
theorem wg(h:G:=by
 apply SQ.nil
 refine dH.call (.i (by rfl)) (by rfl) (by rfl) hghM hqhM e9 w9 ?_
 exact af):G:=h
theorem wh(h:G:=by
 apply SQ.nil
 refine dH.call (.i (by rfl)) (by rfl) (by rfl) hghD hqhD vA oZ ?_
 exact af):G:=h
theorem wk(h:G:=by
 apply SQ.nil
 refine dH.call (.i (by rfl)) (by rfl) (by rfl) hghD hqhD TS ME ?_
 exact af):G:=h
theorem wm(h:G:=by
 simp only[cO]at h
 split at h
 .split at h
  .exact mh
  .exact ah
 .exact ah):G:=h
theorem wo(h:G:=by
 refine aJ.aV 38 h0 func50 (h:=?_)
 refine aD (A7 h1 h2 h3 e1 e2 e3 e4) ?_
 exact aa):G:=h
theorem wq(h:G:=by
 refine⟨b',C,cur,(fM e').trans e1,?_,e3,e4,e5,e6,e7.mono nx,e8⟩
 exact an):G:=h
theorem wu(h:G:=by
 split at ht
 .simp only[yAS,yBl,yBm]at ht
  rw[ht]
  exact cm
 .cases ht):G:=h
theorem wz(h:G:=by
 refine aD (A13 b1 b2 b3 b4 c2 c3 @d9 @d11 hml hp h2 hS2 NX) ?_
 exact bq):G:=h
theorem xb(h:G:=by
 have:=VR.agg (c:=c) cells'.toList out h2.1 h3 h2.2
 exact bp):G:=h
theorem xd(h:G:=by exact A3 q1 hi ha):G:=h
theorem xe(h:G:=by exact A15 iZ jA jB jC jD jE qG qH qI qJ qK qL u1 @v1 w1):G:=h
theorem xg(h:G:=by exact A20 hghN e1 kF kG kH kI kJ kK pZ qA qB qC qD qE iZ jA jB jC jD (A10 jE qG qH qI qJ qK qL u1 @v1 w1)):G:=h
theorem xh(h:G:=by exact A18 tW tX tY tZ uA uB uC uD uE uF uG uH uI uJ uK uL uM uN):G:=h
theorem xj(h:G:=by exact A20 AR AS AT AU AV AW AX AY AZ A0 A1 BA BC BD BE BF BG BH u9 (A2 @v9 w9)):G:=h
theorem xk(h:G:=by exact A17 hghC e1 kF kG kH kI kJ kK iZ jA jB jC jD jE u1 @v1 w1):G:=h
theorem xl(h:G:=by exact A9 iZ jA jB jC jD jE u1 @v1 w1):G:=h
theorem xm(h:G:=by exact A18 zD zE zF zG zH zI zJ zK zL zM zN zO zP zQ zR zS zT zU):G:=h
theorem xo(h:G:=by exact A20 zV zW zX zY zZ z7 z8 AA AB AD AE AF AG AH AI AJ AK AL u5 (A2 @v5 w5)):G:=h
theorem xq(h:G:=by exact A20 B1 B2 B3 B4 B5 B6 B7 B8 B9 CA CB CC CD CE CF CG CH CI JZ (A2 @v11 oX)):G:=h
theorem xu(h:G:=by exact A18 CJ CL CM CN CO CP wD wE wF wG wH wI CQ CR CS CT CU CV):G:=h
theorem xw(h:G:=by exact A15 q1 hi ha j0 j1 hx1 fP hxe c2 c3 c4 c5 h1 hE @hle):G:=h
theorem xx(h:G:=by exact A14 q1 hi ha j0 hx1 hy1 fP kP hxe hye h2 hE h3 hA):G:=h
theorem xy(h:G:=by exact A16 hs h1 h2 h3 h7 h8 eA iT gA hl KQ c6 hk2 V1 V2 c7):G:=h
theorem xz(h:G:=by exact A17 hgT @t1 l0 @a0 a1 @a2 @a3 @a4 l1 b0' b1 b2 b3 b4 n1 n2 n3):G:=h
theorem ya(h:G:=by exact A14 hgW @t1 LC LD H8 SV P9 QA x2l x2a x2b x2c x2d x2e):G:=h
theorem yb(h:G:=by exact A20 hghK e3 rK rL rM rN rO rP rQ rR rS rT rU rV y7 y8 y9 zA zB (A20 zC tE tF tG tH tI tJ tK tL tM tN tO tP IB IC ID IE IF IG (A3 u3 @v3 w3))):G:=h
theorem yc(h:G:=by exact A20 tE tF tG tH tI tJ tK tL tM tN tO tP IB IC ID IE IF IG u3 (A2 @v3 w3)):G:=h
theorem yd(h:G:=by exact A20 hghK e7 rW rX rY rZ sA sB sC sD sE sF sG sH tQ tR tS tT tU (A20 tV FN FO FP FQ FT FU FV FW FX FY FZ F0 F2 F3 F4 F5 F6 F7 (A3 u7 v7 w7))):G:=h
theorem ye(h:G:=by exact A20 FN FO FP FQ FT FU FV FW FX FY FZ F0 F2 F3 F4 F5 F6 F7 u7 (A2 v7 w7)):G:=h
theorem yf(h:G:=by exact A20 hghM u6 BI BJ BK BL BM BN BO BP BQ BR BS BT BU BV BW BY BZ (A20 B0 B1 B2 B3 B4 B5 B6 B7 B8 B9 CA CB CC CD CE CF CG CH CI (A3 JZ @v11 oX))):G:=h
theorem yg(h:G:=by exact A20 wK wL wM wN wP wQ uO uP uQ uR uS uT wR wS wU wV wW wX J0 (A2 J1 oZ)):G:=h
theorem yh(h:G:=by exact A20 hghM e9 tW tX tY tZ uA uB uC uD uE uF uG uH uI uJ uK uL uM (A20 uN AR AS AT AU AV AW AX AY AZ A0 A1 BA BC BD BE BF BG BH (A3 u9 @v9 w9))):G:=h
theorem yj(h:G:=by exact A20 hgW TG D3 D4 D5 D6 D7 D8 xK xL xM xN xO xP D9 EA EB EC ED (A20 EE L6 L7 L8 L9 MA MB u5 @v5 w5 aPy aPz aPA aPB aPC aPD aIP aIQ aIR (A20 aIS aIT aIU aPE aPF aPG aPH aPI aPJ aPK aPL aPM aPN aPO aPP u5b v5b w5b wJ (A20 pF QK JE aA2 aA3 aEa X6 aPQ aPR aPS aPT aPU aPV aPW aPX aPY aPZ aP0 aP1 (A17 aP2 aP3 aP4 aP5 aP6 aP7 aP8 aP9 aQa aQb aQc aQd hL hlf aQe c8 c9))))):G:=h
theorem yl(h:G:=by exact A16 q2 hj hs h5 gp q3 q4 q5 q6 y1 y2 y3 y4 y5 y6 wj):G:=h
theorem ym(h:G:=by omega):G:=h
theorem yo(h:G:=by simp):G:=h
theorem yp(h:G:=by kernel_rfl):G:=h
theorem yq(h:G:=by assumption):G:=h
theorem yu(h:G:=by rfl):G:=h
theorem yw(h:G:=by (try simp only[yAa,yAK,yAL,maxLen]);omega):G:=h
theorem yx(h:G:=by decide):G:=h
theorem yy(h:G:=by (first|rfl|(simp[bL];repeat(first|rfl|(apply And.intro)))|(simp[bL];done))):G:=h
theorem yz(h:G:=by first|(simp;done)|(simp;omega)):G:=h
theorem za(h:G:=by repeat(first|exact List.Mem.head _|apply List.Mem.tail)):G:=h
theorem zb(h:G:=by decide +kernel):G:=h
theorem zc(h:G:=by simp;omega):G:=h
theorem zd(h:G:=by rw[yB];omega):G:=h
theorem ze(h:G:=by unfold Addr.add;split<;>simp_all):G:=h
theorem zf(h:G:=by simp only[IntKind.wrap,IntKind.bits,IntKind.signed];simp;omega):G:=h
theorem zg(h:G:=by cases x;cases y;simpa using h):G:=h
theorem zh(h:G:=by cases e):G:=h
theorem zi(h:G:=by simp only;omega):G:=h
theorem zj(h:G:=by rintro rfl;rw[eZ (hs.aZ i hd)]at ho;cases ho):G:=h
theorem zk(h:G:=by cases h):G:=h
theorem zn(h:G:=by rw[h];rfl):G:=h
theorem zo(h:G:=by simpa using h1):G:=h
theorem zp(h:G:=by rw[yAg (yA.1 h).1];exact h):G:=h
theorem zq(h:G:=by rw[yAq hi,ha]):G:=h
theorem zu(h:G:=by simp[gB,aR,g1,g3,g5,hXM,hEm]):G:=h
theorem zw(h:G:=by simpa using h):G:=h
theorem zx(h:G:=by rw[yAe];omega):G:=h
theorem zy(h:G:=by simp only[maxLen];omega):G:=h
theorem Aa(h:G:=by simp at h):G:=h
theorem Ab(h:G:=by rw[yAa,yBh];omega):G:=h
theorem Ac(h:G:=by simpa using hx):G:=h
theorem Ad(h:G:=by rw[nF];decide):G:=h
theorem Ae(h:G:=by rw[yAa];omega):G:=h
theorem Af(h:G:=by intro p hp;exact yBB _ hp):G:=h
theorem Ag(h:G:=by apply yBR;simp):G:=h
theorem Ah(h:G:=by rw[yAt];omega):G:=h
theorem Ai(h:G:=by simp[Call.operands];exact yBV.1 hx):G:=h
theorem Aj(h:G:=by simp[ByteArray.size]):G:=h
theorem Ak(h:G:=by rw[hr];rfl):G:=h
theorem Al(h:G:=by simpa using hl):G:=h
theorem Am(h:G:=by simpa using hu):G:=h
theorem Ao(h:G:=by cases hg):G:=h
theorem Ap(h:G:=by rw[show(s[0].toNat).toUInt8=s[0]from by simp];exact hk):G:=h
theorem Aq(h:G:=by simpa using ho):G:=h
theorem Ar(h:G:=by simp[zeroValue,typeInfo,hi,hzv]):G:=h
theorem As(h:G:=by simp[Lib.join,List.intercalate]):G:=h
theorem At(h:G:=by simp[Lib.join,List.intercalate,List.intersperse]):G:=h
theorem Au(h:G:=by refine⟨[],0,n5,.full,kS,?_⟩;exact bV (⟨by have:=h5.le;omega,hXM▸nI.start,.inl rfl,.nil,h5⟩)):G:=h
theorem Av(h:G:=by simpa using hd):G:=h
theorem Aw(h:G:=by rw[yAg fP];exact hx0):G:=h
theorem Ax(h:G:=by simpa using h3):G:=h
theorem Ay(h:G:=by rw[yAe];have:=bH.le;omega):G:=h
theorem Az(h:G:=by rw[yAe];have:=h4.le;omega):G:=h
theorem Ba(h:G:=by cases mx<;>simp_all):G:=h
theorem Bb(h:G:=by simp[aW]at hb;omega):G:=h
theorem Bc(h:G:=by rw[hsl];simp only[maxLen]at hmax;omega):G:=h
theorem Bd(h:G:=by (first|rfl|(simp[hW0,jH];repeat(first|rfl|(apply And.intro)))|(simp[hW0,jH];done))):G:=h
theorem Be(h:G:=by simp only[PD.eV,PD.bW,yCg];exact dA.eC l):G:=h
theorem Bf(h:G:=by cases h;rfl):G:=h
theorem Bg(h:G:=by (first|rfl|(simp[oG,jH];repeat(first|rfl|(apply And.intro)))|(simp[oG,jH];done))):G:=h
theorem Bh(h:G:=by (first|rfl|(simp[fV,jH];repeat(first|rfl|(apply And.intro)))|(simp[fV,jH];done))):G:=h
theorem Bi(h:G:=by simp only[dB,cS hx,hr]):G:=h
theorem Bj(h:G:=by rw[yAd (Ne.symm hj),yAg (by rw[yAD];exact(yA.1 h).1),yAd (Ne.symm hj)];exact h):G:=h
theorem Bk(h:G:=by (first|rfl|(simp[hbd];repeat(first|rfl|(apply And.intro)))|(simp[hbd];done))):G:=h
theorem Bl(h:G:=by (first|rfl|(simp[hbc];repeat(first|rfl|(apply And.intro)))|(simp[hbc];done))):G:=h
theorem Bm(h:G:=by (first|rfl|(simp[iJ];repeat(first|rfl|(apply And.intro)))|(simp[iJ];done))):G:=h
theorem Bn(h:G:=by simp[wC]):G:=h
theorem Bo(h:G:=by simpa using hi):G:=h
theorem Bp(h:G:=by simp only[fR,hu]):G:=h
theorem Bq(h:G:=by rw[<-pO];trivial):G:=h
theorem Br(h:G:=by simpa using hn):G:=h
theorem Bs(h:G:=by simp[Cx.put]):G:=h
theorem Bt(h:G:=by rw[e1];rfl):G:=h
theorem Bu(h:G:=by (first|rfl|(simp[];repeat(first|rfl|(apply And.intro)))|(simp[];done))):G:=h
theorem Bv(h:G:=by simpa using h2):G:=h
theorem Bw(h:G:=by simpa using hk):G:=h
theorem Bx(h:G:=by simpa using a):G:=h
theorem Bz(h:G:=by simpa using b):G:=h
theorem Ca(h:G:=by simp[PD.strip]):G:=h
theorem Cb(h:G:=by unfold tn at h;exact_mod_cast h):G:=h
theorem Cc(h:G:=by unfold iA;omega):G:=h
theorem Cd(h:G:=by simp[hlt]):G:=h
theorem Ce(h:G:=by simp only[maxLen]at hmax;omega):G:=h
theorem Cf(h:G:=by rw[<-hA,h];rfl):G:=h
theorem Cg(h:G:=by refine⟨l.length,?_⟩;exact bV (⟨rfl,yAk _,by rw[yBz];exact hT⟩)):G:=h
theorem Ch(h:G:=by have:=hzc.1;simp at this;omega):G:=h
theorem Ci(h:G:=by simp only[dB,cS hx,cS hy,hr]):G:=h
theorem Cj(h:G:=by simp[lT,aR,g9,g11,g13,hXN,hEm]):G:=h
theorem Ck(h:G:=by simp[PD.flat,PD.HB]):G:=h
theorem Cl(h:G:=by simp[hy]):G:=h
theorem Cm(h:G:=by rw[hls,yAH,hA];exact yAj HW):G:=h
theorem Cn(h:G:=by rw[x8 (hs.aZ id hd)];exact h):G:=h
theorem Co(h:G:=by rw[yAg (yA.1 h1).1];exact h1):G:=h
theorem Cp(h:G:=by cases hx:fn.body<;>simp_all):G:=h
theorem Cq(h:G:=by rw[<-hY];rfl):G:=h
theorem Cr(h:G:=by rw[yAe];have:=dI.le;omega):G:=h
theorem Cs(h:G:=by rw[IntKind.wrap_u64];omega):G:=h
theorem Ct(h:G:=by rw[hpar];simp only;omega):G:=h
theorem Cu(h:G:=by rw[e];exact hd):G:=h
theorem Cv(h:G:=by rw[<-yBq,hd];rfl):G:=h
theorem Cw(h:G:=by rw[q4];exact hm.mono q2):G:=h
theorem Cy(h:G:=by have:=s[0].toNat_lt;omega):G:=h
theorem Cz(h:G:=by simp[execOp,r]):G:=h
theorem Da(h:G:=by have:=h.1;omega):G:=h
theorem Db(h:G:=by simpa using he):G:=h
theorem Dc(h:G:=by rw[aAs];decide +kernel):G:=h
theorem Dd(h:G:=by rw[hi.size];exact pP ho):G:=h
theorem De(h:G:=by have:=hv.1;simp at this):G:=h
theorem Df(h:G:=by rw[hlx];simp):G:=h
theorem Dg(h:G:=by have:=yAY.1 hi;omega):G:=h
theorem Dh(h:G:=by rintro rfl;rw[eZ (hs.aZ i hd)]at hm;cases hm):G:=h
theorem Di(h:G:=by rw[hAl];exact urow):G:=h
end
theorem tu:True:=trivial
theorem An {a b:Prop}(h:a)(k:b):a∧b:=⟨h,k⟩
theorem gn {α:Sort _}(e:α):∃x,e=x:=⟨_,rfl⟩
def yA:=@List.getElem?_eq_some_iff
def yAa:=@List.length_append
def yAb:=@Option.some.injEq
def yAc:=@Prod.mk.injEq
def yAd:=@List.getElem?_set_ne
def yAe:=@List.length_map
def yAf:=@List.eq_nil_of_length_eq_zero
def yAg:=@List.getElem?_append_left
def yAh:=@List.getElem?_eq_getElem
def yAi:=@List.append_assoc
def yAj:=@List.getElem?_set_self
def yAk:=@Nat.le_refl
def yAl:=@List.append_nil
def yAm:=@List.getElem_mem
def yAn:=@List.all_eq_true
def yAo:=@List.getElem?_map
def yAp:=@Nat.zero_add
def yAq:=@List.drop_eq_getElem_cons
def yAr:=@Bool.and_eq_true
def yAs:=@List.drop_eq_nil_of_le
def yAt:=@List.length_take
def yAu:=@decide_eq_decide
def yAv:=@List.getElem?_take
def yAw:=@List.mem_map
def yAx:=@Bool.false_eq_true
def yAy:=@List.mem_of_mem_take
def yAz:=@List.take_of_length_le
def yAA:=@List.getD_eq_getElem?_getD
def yAB:=@List.getElem?_concat_length
def yAC:=@Option.map_some
def yAD:=@List.length_set
def yAE:=@List.mem_of_getElem?
def yAF:=@Nat.zero_le
def yAG:=@List.map_congr_left
def yAH:=@List.map_append
def yAI:=@if_neg
def yAJ:=@if_pos
def yAK:=@List.length_cons
def yAL:=@List.length_nil
def yAM:=@if_true
def yAN:=@Go.run_underlying
def yAO:=@if_false
def yAP:=@congrArg
def yAQ:=@List.nil_append
def yAR:=@List.cons_append
def yAS:=@List.mem_cons
def yAT:=@List.set_cons_zero
def yAU:=@List.set_cons_succ
def yAV:=@and_true
def yAW:=@Go.Sem.run_bind
def yAX:=@List.map_cons
def yAY:=@List.mem_range
def yAZ:=@List.mem_cons_self
def yB:=@Go.IntKind.wrap_i64
def yBa:=@Go.Result.andThen_ok
def yBb:=@Go.Sem.run_pure
def yBc:=@List.map_map
def yBd:=@Ne.symm
def yBe:=@Nat.le_trans
def yBf:=@List.length_drop
def yBg:=@List.flatMap_cons
def yBh:=@List.length_singleton
def yBi:=@Bool.or_eq_true
def yBj:=@Nat.mod_lt
def yBk:=@Int.toNat_natCast
def yBl:=@List.not_mem_nil
def yBm:=@or_false
def yBn:=@Except.ok.injEq
def yBo:=@List.getElem?_eq_none
def yBp:=@Go.Calls.mono
def yBq:=@List.drop_drop
def yBr:=@not_true_eq_false
def yBs:=@Nat.add_mul
def yBt:=@Go.Addr.mk.injEq
def yBu:=@Bool.not_eq_true'
def yBv:=@List.mem_append
def yBw:=@Option.some.inj
def yBx:=@List.cons.injEq
def yBy:=@List.getElem?_drop
def yBz:=@List.take_length
def yBA:=@List.map_nil
def yBB:=@List.mem_cons_of_mem
def yBC:=@decide_eq_true_eq
def yBD:=@List.getElem?_cons_zero
def yBE:=@List.length_pos_iff
def yBF:=@Nat.lt_or_ge
def yBG:=@Go.Value.slice.injEq
def yBH:=@Bool.not_true
def yBI:=@beq_iff_eq
def yBJ:=@List.mem_of_mem_drop
def yBK:=@List.all_cons
def yBL:=@Go.heap_alloc_new
def yBM:=@true_and
def yBN:=@Go.Value.pointer.injEq
def yBO:=@Nat.lt_of_lt_of_le
def yBP:=@Except.error.injEq
def yBQ:=@Go.CallsIn.mono
def yBR:=@Array.ext'
def yBS:=@List.ext_getElem?
def yBT:=@List.getElem?_cons_succ
def yBU:=@Nat.mul_le_mul_right
def yBV:=@Array.mem_toList_iff
def yBW:=@Bool.not_false
def yBX:=@List.take_succ_eq_append_getElem
def yBY:=@List.mem_singleton
def yBZ:=@Bool.not_eq_true
def yC:=@Bool.false_or
def yCa:=@Option.getD_some
def yCb:=@Bool.and_self
def yCc:=@Nat.add_zero
def yCd:=@List.head?_drop
def yCe:=@List.drop_length
def yCf:=@Array.length_toList
def yCg:=@Bool.and_true
def yCh:=@Bool.false_and
def yCi:=@Array.getElem?_toList
def yCj:=@Array.getElem?_eq_getElem
def yCk:=@Go.setRow_other
def yCl:=@Go.run_sliceBound
def yCm:=@List.nodup_append
def yCn:=@Nat.mul_one
def yCo:=@List.getElem?_append_right
def yCp:=@Go.World.cell?_of_block
def yCq:=@Nat.add_comm
def yCr:=@Nat.add_assoc
def yCs:=@Go.World.putObj_heap_other
def yCt:=@List.mem_flatMap
def yCu:=@not_false_eq_true
def yCv:=@Array.getElem?_modify
def yCw:=@and_self
def yCx:=@Prod.ext
def yCy:=@Sum.inl.injEq
def yCz:=@List.any_eq_false
def yCA:=@List.getElem?_set
def yCB:=@Array.getD_eq_getD_getElem?
def yCC:=@Nat.min_eq_left
def yCD:=@Option.bind_some
def yCE:=@Nat.pos_of_ne_zero
def yCF:=@List.flatMap_append
def yCG:=@List.map_take
def yCH:=@List.getElem?_of_mem
def yCI:=@List.set_append_left
def yCJ:=@Nat.succ_mul
def yCK:=@List.take_append_drop
def yCL:=@List.range'_succ
def yCM:=@Array.toList_append
def yCN:=@List.size_toArray
def yCO:=@List.take_left
def yCP:=@Go.setRow_heap
def yCQ:=@List.take_left'
def yCR:=@List.getElem?_append
def yCS:=@Nat.le_of_eq
def yCT:=@Int.tmod_eq_emod_of_nonneg
def yCU:=@Nat.div_le_self
def yCV:=@Bool.true_and
def yCW:=@List.range_succ
def yCX:=@Array.mem_of_getElem?
def yCY:=@Bool.true_or
def yCZ:=@Bool.or_false
def yD:=@List.flatten_cons
def yDa:=@List.take_succ_cons
def yDb:=@Go.Oper.semAt_eq
def yDc:=@List.foldl_cons
def yDd:=@List.getElem?_replicate
def yDe:=@Nat.le_of_lt
def yDf:=@Nat.sub_zero
def yDg:=@Array.toList_map
def yDh:=@Array.toList_range
def yDi:=@Nat.mul_pos
def yDj:=@Go.grownCap_ge
def yDk:=@Go.grownCap_le_maxLen
def yDl:=@List.length_replicate
def yDm:=@Nat.gcd_comm
def yDn:=@List.flatMap_nil
def yDo:=@Int.emod_nonneg
def yDp:=@Int.emod_lt_of_pos
def yDq:=@of_decide_eq_true
def yDr:=@Array.getElem?_eq_some_iff
def yDs:=@List.all_append
def yDt:=@Option.map_none
def yDu:=@Nat.not_lt_zero
def yDv:=@List.take_take
def yDw:=@Nat.succ_ne_self
def yDx:=@Go.heap_alloc_old
def yDy:=@Go.growslice_fits
def yDz:=@Go.run_storeCells_at
def yDA:=@UInt8.toNat_ofNat'
def yDB:=@List.getD_cons_succ
def yDC:=@Int.eq_ofNat_of_zero_le
def yDD:=@Int.natCast_add
def yDE:=@Int.natCast_one
def yDF:=@List.exists_cons_of_ne_nil
def yDG:=@List.drop_left'
def yDH:=@Bool.true_eq_false
def yDI:=@List.any_cons
def yDJ:=@List.drop_zero
def yDK:=@Array.size_replicate
def yDL:=@Bool.or_eq_false_iff
def yDM:=@BitVec.eq_of_toNat_eq
def yDN:=@Go.callsIn_of_wp_marks
def yDO:=@Array.toList_setIfInBounds
def yDP:=@Array.getElem?_replicate
def yDQ:=@List.mem_filterMap
def yDR:=@List.mem_append_right
def yDS:=@Nat.eq_zero_or_pos
def yDT:=@List.eq_of_mem_replicate
def yDU:=@List.length_eq_zero_iff
def yDV:=@List.getElem?_eq_none_iff
def yDW:=@Array.eq_empty_of_size_eq_zero
def yDX:=@Nat.eq_zero_of_gcd_eq_zero_right
def yDY:=@Int.tdiv_eq_ediv_of_nonneg
def yDZ:=@Array.getElem?_append
def yE:=@List.getElem?_toArray
def yEa:=@List.set_eq_take_append_cons_drop
theorem A2 {A B:Prop}(a:A)(b:B):A∧B:=⟨a,b⟩
theorem A3 {A B C:Prop}(a:A)(b:B)(c:C):A∧B∧C:=⟨a,b,c⟩
theorem A4 {A B C D:Prop}(a:A)(b:B)(c:C)(d:D):A∧B∧C∧D:=⟨a,b,c,d⟩
theorem A5 {A B C D E:Prop}(a:A)(b:B)(c:C)(d:D)(e:E):A∧B∧C∧D∧E:=⟨a,b,c,d,e⟩
theorem A6 {A B C D E F:Prop}(a:A)(b:B)(c:C)(d:D)(e:E)(f:F):A∧B∧C∧D∧E∧F:=⟨a,b,c,d,e,f⟩
theorem A7 {A B C D E F G:Prop}(a:A)(b:B)(c:C)(d:D)(e:E)(f:F)(g:G):A∧B∧C∧D∧E∧F∧G:=⟨a,b,c,d,e,f,g⟩
theorem A8 {A B C D E F G H:Prop}(a:A)(b:B)(c:C)(d:D)(e:E)(f:F)(g:G)(h:H):A∧B∧C∧D∧E∧F∧G∧H:=⟨a,b,c,d,e,f,g,h⟩
theorem A9 {A B C D E F G H I:Prop}(a:A)(b:B)(c:C)(d:D)(e:E)(f:F)(g:G)(h:H)(i:I):A∧B∧C∧D∧E∧F∧G∧H∧I:=⟨a,b,c,d,e,f,g,h,i⟩
theorem A10 {A B C D E F G H I J:Prop}(a:A)(b:B)(c:C)(d:D)(e:E)(f:F)(g:G)(h:H)(i:I)(j:J):A∧B∧C∧D∧E∧F∧G∧H∧I∧J:=⟨a,b,c,d,e,f,g,h,i,j⟩
theorem A11 {A B C D E F G H I J K:Prop}(a:A)(b:B)(c:C)(d:D)(e:E)(f:F)(g:G)(h:H)(i:I)(j:J)(k:K):A∧B∧C∧D∧E∧F∧G∧H∧I∧J∧K:=⟨a,b,c,d,e,f,g,h,i,j,k⟩
theorem A12 {A B C D E F G H I J K L:Prop}(a:A)(b:B)(c:C)(d:D)(e:E)(f:F)(g:G)(h:H)(i:I)(j:J)(k:K)(l:L):A∧B∧C∧D∧E∧F∧G∧H∧I∧J∧K∧L:=⟨a,b,c,d,e,f,g,h,i,j,k,l⟩
theorem A13 {A B C D E F G H I J K L M:Prop}(a:A)(b:B)(c:C)(d:D)(e:E)(f:F)(g:G)(h:H)(i:I)(j:J)(k:K)(l:L)(m:M):A∧B∧C∧D∧E∧F∧G∧H∧I∧J∧K∧L∧M:=⟨a,b,c,d,e,f,g,h,i,j,k,l,m⟩
theorem A14 {A B C D E F G H I J K L M N:Prop}(a:A)(b:B)(c:C)(d:D)(e:E)(f:F)(g:G)(h:H)(i:I)(j:J)(k:K)(l:L)(m:M)(n:N):A∧B∧C∧D∧E∧F∧G∧H∧I∧J∧K∧L∧M∧N:=⟨a,b,c,d,e,f,g,h,i,j,k,l,m,n⟩
theorem A15 {A B C D E F G H I J K L M N O:Prop}(a:A)(b:B)(c:C)(d:D)(e:E)(f:F)(g:G)(h:H)(i:I)(j:J)(k:K)(l:L)(m:M)(n:N)(o:O):A∧B∧C∧D∧E∧F∧G∧H∧I∧J∧K∧L∧M∧N∧O:=⟨a,b,c,d,e,f,g,h,i,j,k,l,m,n,o⟩
theorem A16 {A B C D E F G H I J K L M N O P:Prop}(a:A)(b:B)(c:C)(d:D)(e:E)(f:F)(g:G)(h:H)(i:I)(j:J)(k:K)(l:L)(m:M)(n:N)(o:O)(p:P):A∧B∧C∧D∧E∧F∧G∧H∧I∧J∧K∧L∧M∧N∧O∧P:=⟨a,b,c,d,e,f,g,h,i,j,k,l,m,n,o,p⟩
theorem A17 {A B C D E F G H I J K L M N O P Q:Prop}(a:A)(b:B)(c:C)(d:D)(e:E)(f:F)(g:G)(h:H)(i:I)(j:J)(k:K)(l:L)(m:M)(n:N)(o:O)(p:P)(q:Q):A∧B∧C∧D∧E∧F∧G∧H∧I∧J∧K∧L∧M∧N∧O∧P∧Q:=⟨a,b,c,d,e,f,g,h,i,j,k,l,m,n,o,p,q⟩
theorem A18 {A B C D E F G H I J K L M N O P Q R:Prop}(a:A)(b:B)(c:C)(d:D)(e:E)(f:F)(g:G)(h:H)(i:I)(j:J)(k:K)(l:L)(m:M)(n:N)(o:O)(p:P)(q:Q)(r:R):A∧B∧C∧D∧E∧F∧G∧H∧I∧J∧K∧L∧M∧N∧O∧P∧Q∧R:=⟨a,b,c,d,e,f,g,h,i,j,k,l,m,n,o,p,q,r⟩
theorem A19 {A B C D E F G H I J K L M N O P Q R S:Prop}(a:A)(b:B)(c:C)(d:D)(e:E)(f:F)(g:G)(h:H)(i:I)(j:J)(k:K)(l:L)(m:M)(n:N)(o:O)(p:P)(q:Q)(r:R)(s:S):A∧B∧C∧D∧E∧F∧G∧H∧I∧J∧K∧L∧M∧N∧O∧P∧Q∧R∧S:=⟨a,b,c,d,e,f,g,h,i,j,k,l,m,n,o,p,q,r,s⟩
theorem A20 {A B C D E F G H I J K L M N O P Q R S T:Prop}(a:A)(b:B)(c:C)(d:D)(e:E)(f:F)(g:G)(h:H)(i:I)(j:J)(k:K)(l:L)(m:M)(n:N)(o:O)(p:P)(q:Q)(r:R)(s:S)(t:T):A∧B∧C∧D∧E∧F∧G∧H∧I∧J∧K∧L∧M∧N∧O∧P∧Q∧R∧S∧T:=⟨a,b,c,d,e,f,g,h,i,j,k,l,m,n,o,p,q,r,s,t⟩
def J2:Nat->Option (IntKind×List Int):=λg=>if g=1 then some (.u64,[1,10,100,1000,10000,100000,1000000,10000000,100000000,1000000000,10000000000,100000000000,1000000000000,10000000000000,100000000000000,1000000000000000,10000000000000000,100000000000000000,1000000000000000000,10000000000000000000])else if g=4 then some (.u8,[0,1,28,2,29,14,24,3,30,22,20,15,25,17,4,8,31,27,13,23,21,19,16,7,26,12,18,6,11,5,10,9])else if g=5 then some (.u8,[0,1,56,2,57,49,28,3,61,58,42,50,38,29,17,4,62,47,59,36,45,43,51,22,53,39,33,30,24,18,12,5,63,55,48,27,60,41,37,16,46,35,44,21,52,32,23,11,54,26,40,15,34,20,31,10,25,14,19,9,13,8,7,6])else none
def TX:Nat->Option IntKind:=λg=>if g=0 then some .i64 else none
@[simp] def G0:Nat->Bool:=λt=>decide (t=123)||decide (t=125)
@[simp] def QV:Nat->Nat->Bool:=λs d=>decide (s=9)&&decide (d=45)||decide (s=45)&&decide (d=9)
@[simp] def aSm:Nat->Bool:=λf=>f==95||f==87||f==88||f==89||f==91||f==92||f==93||f==133||f==127||f==130||f==131||f==113
@[simp] def aE3:Nat->Bool:=λt=>decide (t=45)||decide (t=250)
@[simp] def aUl:Nat->Bool:=λt=>decide (t=38)||decide (t=39)||decide (t=40)||decide (t=60)||decide (t=63)||decide (t=127)
@[simp] def aKW:Nat->Nat->Bool:=λt n=>!decide (n=275)||decide (t=40)
@[simp] def qS(t n:Nat):Bool:=aUl t&&!aKW t n
section
open Go.RowKit
inductive Tok where
 |any
 |full
 |nil
 |vJ
 |vK
 |own (id:Nat)
inductive PD where
 |bool (b:Bool)
 |int (k:IntKind) (n:Int)
 |str (s:List UInt8)
 |agg (cs:List PD)
 |slice (size:Nat) (xs:List PD) (tok:Tok)
 |ptr (id off:Nat)
 |cI (cs:List PD) (off:Nat)
 |cQ
 |func (f:Nat) (cap:List PD)
 |jS (f:Nat) (first:List PD)
 |yield (id:Nat)
 |iC
 |bG (v:Value)
 |typed (t:TypeId) (cs:List PD)
 |cL (id off n size:Nat)
 |eB (id ver off n size:Nat)
 |fD (id ver off:Nat)
 |fA (id:Nat)
 |iface (t:TypeId) (p:PD)
 |aI (vs:List PD)
instance:Inhabited PD:=⟨.aI []⟩
def PD.cells:PD->List PD
 |.agg cs=>cs
 |.typed _ cs=>cs
 |p=>[p]
inductive UO where
 |ready
 |busy
 |done (jump:Code)
inductive U where
 |none
 |box (p:PD)
 |own (e:TypeId) (size n:Nat)
 |row (e:TypeId) (size ver:Nat) (cs:List PD)
 |map (es:List (PD×PD))
 |mark
 |loop (st:UO) (fr:List PD) (ps:List Tmp) (assign body:Code)
abbrev Dj:=Nat->List PD->List U->Option (PD×List U)
abbrev Dp:=List U
abbrev Dq:=List PD
abbrev Dr:=List UInt8
abbrev Ds:=List Value
abbrev Dt:=Array Value
abbrev Du:=Array Oper
def UO.fits(r:Loop):UO->Prop
 |.ready=>r.state=.ready/\r.pending=none
 |.busy=>r.state=.busy
 |.done j=>r.state=.done/\r.pending=some j
def mC:Option U->Prop
 |some (.own _ _ _)=>False
 |some (.row _ _ _ _)=>False
 |_=>True
def aW:Value->Option Nat
 |.pointer (some a)=>some a.block
 |.slice (some a) _ _=>some a.block
 |.map r=>r
 |_=>none
def U.aUj(v:Value)(a:Addr):U->Prop
 |.none=>True
 |.box _=>∀b,aW v=some b->a.block≠b
 |.own _ size n=>∀b,aW v=some b->a.block=b->a.off<n*size
 |.row _ _ _ _=>∀b,aW v=some b->a.block≠b
 |.map _=>True
 |.mark=>True
 |.loop _ _ _ _ _=>True
structure Cx where
 w:World
 ρ:Nat->Value
 σ:Dp
 D:Nat->Prop
 X:Addr->Prop
def Cx.av(c:Cx)(a:Addr):Prop:=c.X a/\∀id o,c.D id->c.σ[id]?=some o->o.aUj (c.ρ id) a
def qW(c:Cx)(size n cap:Nat)(v:Value):Tok->Prop
 |.any=>True
 |.full=>n=cap
 |.nil=>v=.slice none 0 0/\n=0/\cap=0
 |.vJ=>∃k m,v=.slice none k m
 |.vK=>∃a k m,v=.slice (some a) k m
 |.own id=>c.D id/\∃e m,c.σ[id]?=some (.own e size m)/\n<=m/\(n=m->c.ρ id=v)
def O9(c:Cx)(id ver:Nat)(Q:Nat->Value->Prop):Prop:=c.D id/\∀e sz fH cs,c.σ[id]?=some (.row e sz fH cs)->ver<=fH/\(ver=fH->Q sz (c.ρ id))
def aFs:Value->Bool
 |.nilIface=>true
 |.map none=>true
 |.chan none=>true
 |.float _ _=>true
 |_=>false
inductive VR (c:Cx):Value->PD->Prop where
 |bool (b:Bool):VR c (.bool b) (.bool b)
 |int (k:IntKind) (n:Int):VR c (.int k n) (.int k n)
 |str (s:List UInt8):VR c (.string ⟨s.toArray⟩) (.str s)
 |agg (cs:List Value) (ds:List PD):cs.length=ds.length->(∀v∈cs,v.oneCell'=true) ->
   (∀(i:Nat) (v:Value) (d:PD),cs[i]?=some v->ds[i]?=some d->VR c v d)->VR c (.agg cs.toArray) (.agg ds)
 |slice (A:Option Addr) (n cap size:Nat) (xs:List PD) (tok:Tok) (fl:List Value) :
   n=xs.length->n<=cap->cap<=maxLen->(∀x∈xs,x.cells.length=size)->fl.length=n*size->(∀v∈fl,v.oneCell'=true) ->
   (∀(j:Nat) (v:Value),fl[j]?=some v->∃ad,A=some ad/\c.w.cell? (ad.add j)=some v/\c.av (ad.add j)) ->
   (∀(j:Nat) (v:Value) (d:PD),fl[j]?=some v->(xs.flatMap PD.cells)[j]?=some d->VR c v d) ->
   qW c size n cap (.slice A n cap) tok->VR c (.slice A n cap) (.slice size xs tok)
 |ptr (id off b:Nat):c.D id->(∃p,c.σ[id]?=some (.box p))->c.ρ id=.pointer (some ⟨b,0,none⟩)->VR c (.pointer (some ⟨b,off,none⟩)) (.ptr id off)
 |cL (id off n cap size b:Nat):c.D id->(∃p,c.σ[id]?=some (.box p))->c.ρ id=.pointer (some ⟨b,0,none⟩)->n<=cap->cap<=maxLen->VR c (.slice (some ⟨b,off,none⟩) n cap) (.cL id off n size)
 |eB (id ver off n cap size b:Nat):O9 c id ver (λsz r=>sz=size/\∃C,r=.slice (some ⟨b,0,none⟩) 0 C/\off+cap*size=C*size)->n<=cap->cap<=maxLen ->
   VR c (.slice (some ⟨b,off,none⟩) n cap) (.eB id ver off n size)
 |fD (id ver off b:Nat):O9 c id ver (λ_ r=>∃C,r=.slice (some ⟨b,0,none⟩) 0 C)->VR c (.pointer (some ⟨b,off,none⟩)) (.fD id ver off)
 |fA (id b:Nat):c.D id->mC c.σ[id]?->c.ρ id=.map (some b)->VR c (.map (some b)) (.fA id)
 |iface (t:TypeId) (v:Value) (p:PD):VR c v p->VR c (.iface t v) (.iface t p)
 |cI (ad:Addr) (fl:List Value) (ds:List PD) (off:Nat):fl.length=ds.length->(∀v∈fl,v.oneCell'=true) ->
   (∀(j:Nat) (v:Value),fl[j]?=some v->c.w.cell? (ad.add j)=some v/\c.av (ad.add j)) ->
   (∀(j:Nat) (v:Value) (d:PD),fl[j]?=some v->ds[j]?=some d->VR c v d)->VR c (.pointer (some (ad.add off))) (.cI ds off)
 |cQ:VR c (.pointer none) .cQ
 |func (f:Nat) (cs:List Value) (ds:List PD):cs.length=ds.length ->
   (∀(i:Nat) (v:Value) (d:PD),cs[i]?=some v->ds[i]?=some d->VR c v d)->VR c (.func (.func f) #[] cs.toArray) (.func f ds)
 |jS (f:Nat) (cs:List Value) (ds:List PD):cs.length=ds.length ->
   (∀(i:Nat) (v:Value) (d:PD),cs[i]?=some v->ds[i]?=some d->VR c v d)->VR c (.func (.func f) cs.toArray #[]) (.jS f ds)
 |iC:VR c .nilFunc .iC
 |bG (v:Value):aFs v=true->VR c v (.bG v)
 |yield (id l:Nat):c.D id->mC c.σ[id]?->c.ρ id=.pointer (some ⟨l,0,none⟩)->VR c (.func (.yield l) #[] #[]) (.yield id)
 |aI (cs:List Value) (ds:List PD):cs.length=ds.length ->
   (∀(i:Nat) (v:Value) (d:PD),cs[i]?=some v->ds[i]?=some d->VR c v d)->VR c (.tuple cs.toArray) (.aI ds)
def aK(c:Cx)(cs:List Value)(ds:List PD):Prop:=cs.length=ds.length/\∀(i:Nat) (v:Value) (d:PD),cs[i]?=some v->ds[i]?=some d->VR c v d
def MH(g:Nat):Option (List PD):=match J2 g with
 |some (k,xs)=>some (xs.map (PD.int k))
 |none=>none
def GlV(c:Cx):Prop:=∀g ds,MH g=some ds->VR c (.pointer (some ⟨g,0,none⟩)) (.cI ds 0)
def aJh(g:Nat)(cs:Array Value):Prop:=(∀k zs,J2 g=some (k,zs)->cs=(zs.map (Value.int k)).toArray)/\∀k,TX g=some k->∃m,cs=#[.int k m]
def aJi(g:Nat):Bool:=(J2 g).isSome||(TX g).isSome
def Gh(c:Cx):Prop:=∀g,aJi g=true->(∃cs T fz,c.w.heap[g]?=some (.cells cs T fz)/\aJh g cs)/\∀id,c.D id->aW (c.ρ id)≠some g
def Gl(c:Cx):Prop:=GlV c/\Gh c
structure Sr (c:Cx):Prop where
 box:∀id p,c.D id->c.σ[id]?=some (.box p)->∃b cs T,c.ρ id=.pointer (some ⟨b,0,none⟩)/\c.w.heap[b]?=some (.cells cs T (0,0)) /\
  aK c cs.toList p.cells/\(∀v∈cs.toList,v.oneCell'=true)/\∀t ds,p=.typed t ds->T=t
 own:∀id e size n,c.D id->c.σ[id]?=some (.own e size n)->∃xs,c.w.ownsRowF 0 e size (c.ρ id) n xs
 row:∀id e size ver ds,c.D id->c.σ[id]?=some (.row e size ver ds)->∃b C cur,c.ρ id=.slice (some ⟨b,0,none⟩) 0 C/\c.w.heap[b]?=some (.cells cur e (0,0))/\cur.size=C*size/\C<=maxLen/\0<size /\
  ds.length<=cur.size/\aK c (cur.toList.take ds.length) ds/\∀v∈cur.toList,v.oneCell'=true
 map:∀id es,c.D id->c.σ[id]?=some (.map es)->∃b ents clock,c.ρ id=.map (some b)/\c.w.heap[b]?=some (.map ents clock)/\aK c (ents.toList.map MapEntry.key) (es.map Prod.fst)/\aK c (ents.toList.map MapEntry.val) (es.map Prod.snd)
 mark:∀id,c.D id->c.σ[id]?=some .mark->∃b,c.ρ id=.pointer (some ⟨b,0,none⟩)/\c.w.heap[b]?=some (.deferred (some []))
 loop:∀id st fr ps assign body,c.D id->c.σ[id]?=some (.loop st fr ps assign body)->∃b r,c.ρ id=.pointer (some ⟨b,0,none⟩)/\c.w.heap[b]?=some (.loop r) /\
  r.params=ps.toArray/\r.assign=assign/\r.body=body/\aK c r.tmps.toList fr/\st.fits r
 inj:∀id id' b,c.D id->c.D id'->id≠id'->aW (c.ρ id)=some b->aW (c.ρ id')≠some b
 lt:∀id b,c.D id->aW (c.ρ id)=some b->b<c.w.heap.size
 aZ:∀id,c.D id->id<c.σ.length
 fresh:∀a:Addr,c.w.heap.size<=a.block->c.X a
 iG:Gl c
structure Nx (fl:Nat) (c c':Cx):Prop where
 X:c'.X=c.X
 os:c'.w.os=c.w.os
 tape:c'.w.tape=c.w.tape
 output:c'.w.output=c.w.output
 size:c.w.heap.size<=c'.w.heap.size
 len:c.σ.length<=c'.σ.length
 cell:∀a v,c.av a->c.w.cell? a=some v->c'.av a/\c'.w.cell? a=some v
 aZ:∀id,c.D id->c'.D id
 new:∀id,c'.D id->c.D id\/c.σ.length<=id
 vI:∀id p,c.D id->c.σ[id]?=some (.box p)->c'.ρ id=c.ρ id/\∃p',c'.σ[id]?=some (.box p')
 mU:∀id,c.D id->mC c.σ[id]?->c'.ρ id=c.ρ id/\mC c'.σ[id]?
 xZ:∀id e s n,c.D id->c.σ[id]?=some (.own e s n)->∃n',c'.σ[id]?=some (.own e s n')/\n<=n'/\(n'=n->c'.ρ id=c.ρ id)
 x5:∀id e s v cs,c.D id->c'.σ[id]?=some (.row e s v cs)->∃v0 cs0,c.σ[id]?=some (.row e s v0 cs0)/\v0<=v/\(v0=v->c'.ρ id=c.ρ id)
 back:∀id b,c'.D id->aW (c'.ρ id)=some b->b<c.w.heap.size->c.D id/\aW (c.ρ id)=some b
 frame:∀k,k<c.w.heap.size->(∀id,c.D id->fl<=id->aW (c.ρ id)≠some k)->c'.w.heap[k]?=c.w.heap[k]?
 ro:∀id,id<fl->id<c.σ.length->c'.σ[id]?=c.σ[id]?
 hole:∀id,id<c.σ.length->¬c.D id->c'.σ[id]?=c.σ[id]?
theorem Nx.refl(fl:Nat)(c:Cx):Nx fl c c:=
 ⟨rfl,rfl,rfl,rfl,yAk _,yAk _,λ_ _ h h'=>⟨h,h'⟩,λ_ h=>h,λ_ h=>.inl h,λ_ p _ h=>⟨rfl,p,h⟩,λ_ _ h=>⟨rfl,h⟩,
  λ_ _ _ n _ h=>⟨n,h,yAk _,λ_=>rfl⟩,λ_ _ _ v cs _ h=>⟨v,cs,h,yAk _,λ_=>rfl⟩,λ_ _ h h' _=>⟨h,h'⟩,λ_ _ _=>rfl,λ_ _ _=>rfl,λ_ _ _=>rfl⟩
theorem Nx.trans{fl:Nat}{a b c:Cx}(h:Nx fl a b)(k:Nx fl b c):Nx fl a c where
 X:=k.X.trans h.X
 os:=k.os.trans h.os
 tape:=k.tape.trans h.tape
 output:=k.output.trans h.output
 size:=yBe h.size k.size
 len:=yBe h.len k.len
 cell:=λx v h1 h2=>let ⟨q1,q2⟩:=h.cell x v h1 h2;k.cell x v q1 q2
 aZ:=λid hd=>k.aZ id (h.aZ id hd)
 new:=λid hd=>(k.new id hd).elim (λq=>h.new id q) (λq=>.inr (yBe h.len q))
 vI:=λid p hd hs=>by
  obtain⟨e1,p',hs'⟩:=h.vI id p hd hs;obtain⟨e2,p'',aFt⟩:=k.vI id p' (h.aZ id hd) hs';exact⟨e2.trans e1,p'',aFt⟩
 mU:=λid hd hn=>by
  obtain⟨e1,hn'⟩:=h.mU id hd hn;obtain⟨e2,aUk⟩:=k.mU id (h.aZ id hd) hn';exact⟨e2.trans e1,aUk⟩
 xZ:=λid e s n hd hs=>by
  obtain⟨n',hs',hle,he⟩:=h.xZ id e s n hd hs;obtain⟨n'',aFt,hle',he'⟩:=k.xZ id e s n' (h.aZ id hd) hs';exact⟨n'',aFt,yBe hle hle',λheq=>(he' ym).trans (he ym)⟩
 x5:=λid e s v cs hd hs=>by
  obtain⟨v1,UX,h1,h2,h3⟩:=k.x5 id e s v cs (h.aZ id hd) hs;obtain⟨v2,cs2,g1,g2,g3⟩:=h.x5 id e s v1 UX hd h1;exact⟨v2,cs2,g1,yBe g2 h2,λheq=>(h3 ym).trans (g3 ym)⟩
 back:=λid bk hd hb hlt=>by
  obtain⟨q1,q2⟩:=k.back id bk hd hb (yBO hlt h.size);exact h.back id bk q1 q2 hlt
 frame:=λn hn hx=>by
  rw[k.frame n (yBO hn h.size) (λid hd hfl hb=>?_)]
  .exact h.frame n hn hx
  .obtain⟨q1,q2⟩:=h.back id n hd hb hn;exact hx id q1 hfl q2
 ro:=λid hlt hl=>(k.ro id hlt (yBO hl h.len)).trans (h.ro id hlt hl)
 hole:=λid hl hd=>(k.hole id (yBO hl h.len) (λhb=>(h.new id hb).elim hd (λq=>ym))).trans (h.hole id hl hd)
theorem Nx.weaken{fl cE:Nat}{a b:Cx}(h:Nx fl a b)(hle:cE<=fl):Nx cE a b:=
 { h with frame:=λk hk hx=>h.frame k hk (λid hd hf=>hx id hd (yBe hle hf)),ro:=λid hlt hl=>h.ro id (yBO hlt hle) hl }
structure Nv (c c':Cx):Prop where
 cell:∀a v,c.av a->c.w.cell? a=some v->c'.av a/\c'.w.cell? a=some v
 aZ:∀id,c.D id->c'.D id
 vI:∀id p,c.D id->c.σ[id]?=some (.box p)->c'.ρ id=c.ρ id/\∃p',c'.σ[id]?=some (.box p')
 mU:∀id,c.D id->mC c.σ[id]?->c'.ρ id=c.ρ id/\mC c'.σ[id]?
 xZ:∀id e s n,c.D id->c.σ[id]?=some (.own e s n)->∃n',c'.σ[id]?=some (.own e s n')/\n<=n'/\(n'=n->c'.ρ id=c.ρ id)
 x5:∀id e s v cs,c.D id->c'.σ[id]?=some (.row e s v cs)->∃v0 cs0,c.σ[id]?=some (.row e s v0 cs0)/\v0<=v/\(v0=v->c'.ρ id=c.ρ id)
theorem Nx.toV{fl:Nat}{c c':Cx}(h:Nx fl c c'):Nv c c':=⟨h.cell,h.aZ,h.vI,h.mU,h.xZ,h.x5⟩
theorem O9.nV{c c':Cx}(h:Nv c c'){id ver:Nat}{Q:Nat->Value->Prop}(hp:O9 c id ver Q):O9 c' id ver Q:=by
 refine⟨h.aZ id hp.1,λe sz v cs hs=>?_⟩;obtain⟨v0,cs0,h1,h2,h3⟩:=h.x5 id e sz v cs hp.1 hs;obtain⟨h4,h5⟩:=hp.2 e sz v0 cs0 h1;refine⟨yBe h4 h2,λheq=>?_⟩;rw[h3 ym];exact h5 ym
theorem qW.nV{c c':Cx}(h:Nv c c'){size n cap:Nat}{v:Value}{t:Tok}(ht:qW c size n cap v t):qW c' size n cap v t:=by
 cases t with
 |any=>trivial
 |full=>exact ht
 |nil=>exact ht
 |vJ=>exact ht
 |vK=>exact ht
 |own id=>
  obtain⟨hd,e,m,hs,hle,he⟩:=ht;obtain⟨m',hs',hle',he'⟩:=h.xZ id e size m hd hs;exact⟨h.aZ id hd,e,m',hs',yBe hle hle',λheq=>(he' ym).trans (he ym)⟩
theorem VR.nV{c c':Cx}(h:Nv c c'){v:Value}{p:PD}(hv:VR c v p):VR c' v p:=by
 induction hv with
 |bool b=>exact .bool b
 |int k n=>exact .int k n
 |str s=>exact .str s
 |agg cs ds hl h1 _ ih=>exact .agg cs ds hl h1 ih
 |slice A n cap size xs tok cE hn hc hm hx hf h1 hcell _ ht ih=>
  refine .slice A n cap size xs tok cE hn hc hm hx hf h1 (λj v hj=>?_) ih (ht.nV h);obtain⟨ad,e,h2,h3⟩:=hcell j v hj;obtain⟨q1,q2⟩:=h.cell _ _ h3 h2;exact⟨ad,e,q2,q1⟩
 |ptr id off b hd hs hr=>
  obtain⟨p,hs⟩:=hs;obtain⟨e,p',hs'⟩:=h.vI id p hd hs;exact .ptr id off b (h.aZ id hd) ⟨p',hs'⟩ (e.trans hr)
 |cL id off n cap size b hd hs hr h1 h2=>
  obtain⟨p,hs⟩:=hs;obtain⟨e,p',hs'⟩:=h.vI id p hd hs;exact .cL id off n cap size b (h.aZ id hd) ⟨p',hs'⟩ (e.trans hr) h1 h2
 |eB id ver off n cap size b hp h1 h2=>exact .eB id ver off n cap size b (hp.nV h) h1 h2
 |fD id ver off b hp=>exact .fD id ver off b (hp.nV h)
 |fA id b hd hn hr=>
  obtain⟨e,hn'⟩:=h.mU id hd hn;exact .fA id b (h.aZ id hd) hn' (e.trans hr)
 |iface t v p _ ih=>exact .iface t v p ih
 |cI ad cE ds off hl h1 hcell _ ih=>
  refine .cI ad cE ds off hl h1 (λj v hj=>?_) ih;obtain⟨h2,h3⟩:=hcell j v hj;obtain⟨q1,q2⟩:=h.cell _ _ h3 h2;exact⟨q2,q1⟩
 |cQ=>exact .cQ
 |func f cs ds hl _ ih=>exact .func f cs ds hl ih
 |jS f cs ds hl _ ih=>exact .jS f cs ds hl ih
 |iC=>exact .iC
 |bG v h=>exact .bG v h
 |yield id l hd hn hr=>
  obtain⟨e,hn'⟩:=h.mU id hd hn;exact .yield id l (h.aZ id hd) hn' (e.trans hr)
 |aI cs ds hl _ ih=>exact .aI cs ds hl ih
theorem VR.mono{fl:Nat}{c c':Cx}(h:Nx fl c c'){v:Value}{p:PD}(hv:VR c v p):VR c' v p:=hv.nV h.toV
theorem aK.nV{c c':Cx}(h:Nv c c'){cs:Ds}{ds:Dq}(hv:aK c cs ds):aK c' cs ds:=
 ⟨hv.1,λi v d h1 h2=>(hv.2 i v d h1 h2).nV h⟩
theorem GlV.nV{c c':Cx}(h:Nv c c')(hg:GlV c):GlV c':=λg ds e=>(hg g ds e).nV h
theorem Gl.mono{fl:Nat}{c c':Cx}(h:Nx fl c c')(hg:Gl c):Gl c':=by
 refine⟨hg.1.nV h.toV,λg hh=>?_⟩;obtain⟨⟨cs,T,fz,e1,e2⟩,e3⟩:=hg.2 g hh;have hlt:g<c.w.heap.size:=(yDr.1 e1).1;refine⟨⟨cs,T,fz,?_,e2⟩,λid hd hb=>?_⟩
 .rw[h.frame g hlt (λid hd _=>e3 id hd)];exact e1
 .obtain⟨q1,q2⟩:=h.back id g hd hb hlt;exact e3 id q1 q2
theorem aK.mono{fl:Nat}{c c':Cx}(h:Nx fl c c'){cs:Ds}{ds:Dq}(hv:aK c cs ds):aK c' cs ds:=
 ⟨hv.1,λi v d h1 h2=>(hv.2 i v d h1 h2).mono h⟩
mutual
def PD.strip:PD->PD
 |.agg cs=>.agg (PD.lP cs)
 |.typed t cs=>.typed t (PD.lP cs)
 |.slice _ [] _=>.slice 0 [] .any
 |.slice n (x::xs) _=>.slice n (x.strip::PD.lP xs) .any
 |.aI vs=>.aI (PD.lP vs)
 |p=>p
def PD.lP:List PD->Dq
 | []=>[]
 |x::xs=>x.strip::PD.lP xs
end
mutual
def PD.bW:PD->Bool
 |.agg cs=>PD.eV cs
 |.typed _ cs=>PD.eV cs
 |.slice _ xs tok=>PD.eV xs&&(match tok with|.own _=>false|_=>true)
 |.aI vs=>PD.eV vs
 |.cI cs _=>PD.eV cs
 |.func _ cap=>PD.eV cap
 |.jS _ cap=>PD.eV cap
 |.ptr _ _=>false
 |.cL _ _ _ _=>false
 |.eB _ _ _ _ _=>false
 |.fD _ _ _=>false
 |.fA _=>false
 |.iface _ p=>p.bW
 |.yield _=>false
 |_=>true
def PD.eV:List PD->Bool
 | []=>true
 |x::xs=>x.bW&&PD.eV xs
end
theorem PD.OQ:∀xs:List PD,PD.lP xs=xs.map PD.strip
 | []=>by simp[PD.lP]
 |x::xs=>by simp[PD.lP,PD.OQ xs]
theorem PD.G2:∀xs:List PD,PD.eV xs=xs.all PD.bW
 | []=>by simp[PD.eV]
 |x::xs=>by simp[PD.eV,PD.G2 xs]
theorem PD.aKV(p:PD):p.strip.cells=p.cells.map PD.strip:=by
 cases p with
 |slice n xs tok=>cases xs<;>simp[PD.strip,PD.cells]
 |_=>simp[PD.strip,PD.cells,PD.OQ]
theorem PD.lD(n:Nat)(xs:List PD)(tok:Tok):PD.strip (.slice n xs tok)=.slice (if xs.length=0 then 0 else n) (xs.map PD.strip) .any:=by
 cases xs<;>simp[PD.strip,PD.OQ]
theorem VR.strip{c:Cx}{v:Value}{p:PD}(hv:VR c v p):VR c v p.strip:=by
 induction hv with
 |bool b=>simp only[PD.strip];exact .bool b
 |int k n=>simp only[PD.strip];exact .int k n
 |str s=>simp only[PD.strip];exact .str s
 |agg cs ds hl h1 _ ih=>
  simp only[PD.strip,PD.OQ];refine .agg cs _ Al h1 (λi v d hv hd=>?_);exact jk
 |slice A n cap size xs tok fl hn hc hm hx hf h1 hcell _ ht ih=>
  rw[PD.lD];refine .slice A n cap _ _ .any fl Br hc hm ?_ ?_ h1 hcell (λj v d hv hd=>?_) trivial
  .intro x hxm;obtain⟨y,hy,rfl⟩:=yAw.1 hxm;rw[PD.aKV,yAe,hx y hy];have:xs.length≠0:=λe=>by rw[yAf e]at hy;cases hy
   rw[yAI this]
  .rw[hf,hn];split
   .rename_i h0;rw[h0];simp
   .rfl
  .rw[List.flatMap_map]at hd;have e:(xs.flatMap λa=>(PD.strip a).cells)=(xs.flatMap PD.cells).map PD.strip:=by
    rw[List.map_flatMap];exact yAP (λf=>xs.flatMap f) (funext PD.aKV)
   rw[e,yAo]at hd;cases hx:(xs.flatMap PD.cells)[j]? with
   |none=>rw[hx]at hd;simp at hd
   |some x=>
    rw[hx]at hd;simp only[yAC,yAb]at hd;subst hd;exact ih j v x hv hx
 |ptr id off b hd hs hr=>simp only[PD.strip];exact .ptr id off b hd hs hr
 |cL id off n cap size b hd hs hr h1 h2=>simp only[PD.strip];exact .cL id off n cap size b hd hs hr h1 h2
 |eB id ver off n cap size b hp h1 h2=>simp only[PD.strip];exact .eB id ver off n cap size b hp h1 h2
 |fD id ver off b hp=>simp only[PD.strip];exact .fD id ver off b hp
 |fA id b hd hn hr=>simp only[PD.strip];exact .fA id b hd hn hr
 |iface t v p h _=>simp only[PD.strip];exact .iface t v p h
 |cI ad fl ds off hl h1 hcell h2 _=>simp only[PD.strip];exact .cI ad fl ds off hl h1 hcell h2
 |cQ=>simp only[PD.strip];exact .cQ
 |func f cs ds hl h _=>simp only[PD.strip];exact .func f cs ds hl h
 |jS f cs ds hl h _=>simp only[PD.strip];exact .jS f cs ds hl h
 |iC=>simp only[PD.strip];exact .iC
 |bG v h=>simp only[PD.strip];exact .bG v h
 |yield id l hd hn hr=>simp only[PD.strip];exact .yield id l hd hn hr
 |aI cs ds hl _ ih=>
  simp only[PD.strip,PD.OQ];refine .aI cs _ Al (λi v d hv hd=>?_);exact jk
theorem VR.free{c c':Cx}(hcell:∀a v,c.av a->c.w.cell? a=some v->c'.av a/\c'.w.cell? a=some v){v:Value}{p:PD}(hv:VR c v p):p.bW=true->VR c' v p:=by
 have at_:∀ {ds:Dq} {i:Nat} {d:PD},PD.eV ds=true->ds[i]?=some d->d.bW=true:=by
  intro ds i d h hd;rw[PD.G2]at h;exact yAn.1 h d (yAE hd)
 induction hv with
 |bool b=>intro _;exact .bool b
 |int k n=>intro _;exact .int k n
 |str s=>intro _;exact .str s
 |agg cs ds hl h1 _ ih=>
  intro hp;simp only[PD.bW]at hp;exact ug
 |slice A n cap size xs tok cE hn hc hm hx hf h1 hcl _ ht ih=>
  intro hp;simp only[PD.bW,yAr]at hp;refine .slice A n cap size xs tok cE hn hc hm hx hf h1 (λj v hj=>?_) (λj v d hv hd=>ih j v d hv hd ?_) ?_
  .obtain⟨ad,e,h2,h3⟩:=hcl j v hj;obtain⟨q1,q2⟩:=hcell _ _ h3 h2;exact⟨ad,e,q2,q1⟩
  .obtain⟨x,hxm,hdm⟩:=yCt.1 (yAE hd);have hxf:x.bW=true:=by
    have:=hp.1;rw[PD.G2]at this;exact yAn.1 this x hxm
   cases x with
   |agg cs=>
    exact qm
   |typed t cs=>
    exact qm
   |_=>simp only[PD.cells,yBY]at hdm;rw[hdm];exact hxf
  .cases tok with
   |any=>trivial
   |full=>exact ht
   |nil=>exact ht
   |vJ=>exact ht
   |vK=>exact ht
   |own id=>simp at hp
 |ptr id off b hd hs hr=>intro hp;simp[PD.bW]at hp
 |cL id off n cap size b hd hs hr h1 h2=>intro hp;simp[PD.bW]at hp
 |eB id ver off n cap size b hp h1 h2=>intro hp;simp[PD.bW]at hp
 |fD id ver off b hp=>intro hp;simp[PD.bW]at hp
 |fA id b hd hn hr=>intro hp;simp[PD.bW]at hp
 |iface t v p _ ih=>intro hp;simp only[PD.bW]at hp;exact .iface t v p (ih hp)
 |cI ad cE ds off hl h1 hcl _ ih=>
  intro hp;simp only[PD.bW]at hp;refine .cI ad cE ds off hl h1 (λj v hj=>?_) (λj v d hv hd=>ih j v d hv hd (at_ hp hd));obtain⟨h2,h3⟩:=hcl j v hj;obtain⟨q1,q2⟩:=hcell _ _ h3 h2;exact⟨q2,q1⟩
 |cQ=>intro _;exact .cQ
 |func f cs ds hl _ ih=>
  intro hp;simp only[PD.bW]at hp;exact .func f cs ds hl (λi v d hv hd=>ih i v d hv hd (at_ hp hd))
 |jS f cs ds hl _ ih=>
  intro hp;simp only[PD.bW]at hp;exact .jS f cs ds hl (λi v d hv hd=>ih i v d hv hd (at_ hp hd))
 |iC=>intro _;exact .iC
 |bG v h=>intro _;exact .bG v h
 |yield id l hd hn hr=>intro hp;simp[PD.bW]at hp
 |aI cs ds hl _ ih=>
  intro hp;simp only[PD.bW]at hp;exact uo
theorem aK.strip{c:Cx}{cs:Ds}{ds:Dq}(hv:aK c cs ds):aK c cs (ds.map PD.strip):=
 ⟨by simpa using hv.1,λi v d h1 h2=>by
  rw[yAo]at h2;cases hx:ds[i]? with
  |none=>rw[hx]at h2;simp at h2
  |some x=>
   rw[hx]at h2;simp only[yAC,yAb]at h2;subst h2;exact(hv.2 i v x h1 hx).strip⟩
theorem aK.free{c c':Cx}(hcell:∀a v,c.av a->c.w.cell? a=some v->c'.av a/\c'.w.cell? a=some v){cs:Ds}{ds:Dq}(hv:aK c cs ds)(h:PD.eV ds=true):aK c' cs ds:=
 ⟨hv.1,λi v d h1 h2=>(hv.2 i v d h1 h2).free hcell (by
  rw[PD.G2]at h;exact yAn.1 h d (yAE h2))⟩
end
def PD.plain:PD->Bool
 |.agg _|.aI _|.typed _ _=>false
 |_=>true
def J9:Value->Option PD
 |.bool b=>some (.bool b)
 |.int k n=>some (.int k n)
 |.string s=>some (.str s.data.toList)
 |.slice none 0 0=>some (.slice 0 [] .full)
 |.pointer none=>some .cQ
 |.nilFunc=>some .iC
 |.nilIface=>some (.bG .nilIface)
 |.map none=>some (.bG (.map none))
 |_=>none
def ET:List Value->Option (List PD)
 | []=>some []
 |v::vs=>match J9 v,ET vs with
  |some p,some ps=>some (p::ps)
  |_,_=>none
def ofValue:Value->Option PD
 |.agg cs=>match ET cs.toList with|some ps=>some (.agg ps)|none=>none
 |.tuple vs=>if vs.size=0 then some (.aI [])else none
 |v=>J9 v
def dT(P:Program)(t:TypeId):Option PD:=
 match P.info? t with
 |some i=>match i.zero with|some z=>ofValue z|none=>none
 |none=>none
def bI(P:Program)(t:TypeId):Option Nat:=match P.info? t with|some i=>some i.size|none=>none
def fR(P:Program)(t:TypeId):Option Bool:=
 match P.underlying t with
 |some (.struct _)|some (.array _ _)=>some true
 |some _=>some false
 |none=>none
def aT(fr:List PD):Operand->Option PD
 |.tmp t=>some (fr.getD t (.aI []))
 |.const v=>ofValue v
 |.func f=>some (.func f [])
 |.global g=>match MH g with
   |some ds=>some (.cI ds 0)
   |none=>none
def jQ(fr:List PD):List Operand->Option (List PD)
 | []=>some []
 |x::xs=>match aT fr x,jQ fr xs with
  |some p,some ps=>some (p::ps)
  |_,_=>none
def nN(P:Program)(t:TypeId)(cs:List PD)(off:Nat):Option PD:=
 match fR P t,bI P t with
 |some true,some n=>if off+n<=cs.length then some (.agg ((cs.drop off).take n))else none
 |some false,some _=>cs[off]?
 |_,_=>none
def OR(op:BinOp)(k:IntKind)(x y:Int):Option Int:=
 match op with
 |.and=>some (k.wrap ((BitVec.ofInt k.bits x) &&& (BitVec.ofInt k.bits y)).toNat)
 |.or=>some (k.wrap ((BitVec.ofInt k.bits x) ||| (BitVec.ofInt k.bits y)).toNat)
 |.xor=>some (k.wrap ((BitVec.ofInt k.bits x) ^^^ (BitVec.ofInt k.bits y)).toNat)
 |.andNot=>some (k.wrap ((BitVec.ofInt k.bits x) &&& ~~~(BitVec.ofInt k.bits y)).toNat)
 |_=>none
def gO(op:BinOp)(k:IntKind)(x y:Int):Option PD:=
 match op with
 |.add=>some (.int k (k.wrap (x+y)))
 |.sub=>some (.int k (k.wrap (x-y)))
 |.mul=>some (.int k (k.wrap (x*y)))
 |.quo=>if y=0 then none else some (.int k (k.wrap (x.tdiv y)))
 |.rem=>if y=0 then none else some (.int k (x.tmod y))
 |.eql=>some (.bool (x==y))
 |.neq=>some (.bool (x != y))
 |.lss=>some (.bool (decide (x<y)))
 |.leq=>some (.bool (decide (x<=y)))
 |.gtr=>some (.bool (decide (x > y)))
 |.geq=>some (.bool (decide (x >= y)))
 |.and|.or|.xor|.andNot=>match OR op k x y with|some z=>some (.int k z)|none=>none
 |_=>none
def YU(op:BinOp)(k:IntKind)(x y:Int):Option PD:=
 if y<0 then none else
 match op with
 |.shl=>some (.int k (k.wrap (x*2^(min y.toNat k.bits))))
 |.shr=>some (.int k (x.fdiv (2^(min y.toNat k.bits))))
 |_=>none
def YT(op:BinOp)(x y:List UInt8):Option PD:=
 match op with
 |.add=>if x.length+y.length<=maxLen then some (.str (x++y))else none
 |.eql=>some (.bool (x==y))
 |.neq=>some (.bool (!(x==y)))
 |.lss=>some (.bool (Op.bytesLess x y))
 |.leq=>some (.bool (Op.bytesLess x y||x==y))
 |.gtr=>some (.bool (!(Op.bytesLess x y||x==y)))
 |.geq=>some (.bool (!(Op.bytesLess x y)))
 |_=>none
def MP(eq:TypeId->PD->PD->Option Bool)(P:Program)(xs ys:List PD):List Field->Option Bool
 | []=>some true
 |f::fs=>
  if f.name= "_" then MP eq P xs ys fs
  else match nN P f.type xs f.offset,nN P f.type ys f.offset with
   |some a,some b=>match eq f.type a b with
    |some true=>MP eq P xs ys fs
    |some false=>some false
    |none=>none
   |_,_=>none
def ON(eq:PD->PD->Option Bool)(P:Program)(e:TypeId)(n:Nat)(xs ys:List PD):Nat->Nat->Option Bool
 |_,0=>some true
 |i,m+1=>match nN P e xs (i*n),nN P e ys (i*n)with
  |some a,some b=>match eq a b with
   |some true=>ON eq P e n xs ys (i+1) m
   |some false=>some false
   |none=>none
  |_,_=>none
def mA(P:Program):Nat->TypeId->PD->PD->Option Bool
 |0,_,_,_=>none
 |d+1,t,x,y=>
  match P.underlying t with
  |some .bool=>match x,y with|.bool a,.bool b=>some (a==b)|_,_=>none
  |some (.int _)=>match x,y with|.int k a,.int k' b=>if k=k' then some (a==b)else none|_,_=>none
  |some .string=>match x,y with|.str a,.str b=>some (a==b)|_,_=>none
  |some (.pointer _)=>match x,y with
   |.cQ,.cQ=>some true
   |.cQ,.ptr _ _=>some false
   |.cQ,.cI _ _=>some false
   |.ptr _ _,.cQ=>some false
   |.cI _ _,.cQ=>some false
   |_,_=>none
  |some (.func ..)=>match x,y with
   |.iC,.iC=>some true
   |.iC,.func _ _=>some false
   |.func _ _,.iC=>some false
   |_,_=>none
  |some (.struct fs)=>match x,y with
   |.agg xs,.agg ys=>if P.stoodInHeld t then none else MP (mA P d) P xs ys fs.toList
   |_,_=>none
  |some (.array len e)=>match x,y with
   |.agg xs,.agg ys=>match bI P e with
     |some n=>ON (mA P d e) P e n xs ys 0 len
     |none=>none
   |_,_=>none
  |_=>none
def sW(P:Program)(t:TypeId)(x y:PD):Option Bool:=
 match x,y with
 |.agg _,.agg _=>if P.eqGuardType P.depth t then none else mA P 12 t x y
 |_,_=>mA P 12 t x y
def eO(P:Program)(op:BinOp)(t:TypeId)(x y:PD):Option PD:=
 match x,y with
 |.int k a,.int k' b=>
   match op with
   |.shl|.shr=>YU op k a b
   |_=>if k=k' then gO op k a b else none
 |.str a,.str b=>YT op a b
 |_,_=>
  match op with
  |.eql=>match sW P t x y with|some b=>some (.bool b)|none=>none
  |.neq=>match sW P t x y with|some b=>some (.bool (!b))|none=>none
  |_=>none
def T7(op:UnOp)(x:PD):Option PD:=
 match op,x with
 |.neg,.int k n=>some (.int k (k.wrap (0-n)))
 |.xor,.int k n=>match OR .xor k (if k.signed then -1 else k.max) n with|some z=>some (.int k z)|none=>none
 |.not,.bool b=>some (.bool (!b))
 |_,_=>none
def YQ(P:Program)(src dst:TypeId)(x:PD):Option PD:=
 match P.underlying src,P.underlying dst,x with
 |some (.int _),some (.int k),.int _ n=>some (.int k (k.wrap n))
 |some .string,some .string,.str s=>some (.str s)
 |_,_,_=>none
def gN:Option PD->Option Nat
 |some (.int _ i)=>if 0<=i then some i.toNat else none
 |_=>none
def mS(n:Nat)(lo hi:Option (Option PD)):Option (Nat×Nat):=
 match (match hi with|some h=>gN h|none=>some n),(match lo with|some l=>gN l|none=>some 0)with
 |some h,some l=>if l<=h/\h<=n then some (l,h)else none
 |_,_=>none
def GZ(P:Program)(t:TypeId)(x:PD)(lo hi mx:Option (Option PD)):Option PD:=
 match P.underlying t,x with
 |some .string,.str s=>
  if mx.isSome then none else
  match mS s.length lo hi with
  |some (l,h)=>some (.str ((s.drop l).take (h-l)))
  |none=>none
 |some (.slice e),.slice size xs tok=>
  match bI P e,mS xs.length lo hi with
  |some n,some (l,h)=>
   if xs.length=0\/n=size then
    match mx with
    |none=>some (.slice size ((xs.drop l).take (h-l))
      (if h=xs.length then(match tok with|.full=>.full|.own id=>if l=0 then .own id else .any|_=>.any)else .any))
    |some m=>match hi,gN m with
     |some _,some m=>if h<=m/\m<=xs.length then some (.slice size ((xs.drop l).take (h-l)) (if m=h then .full else .any))else none
     |_,_=>none
   else none
  |_,_=>none
 |some (.slice e),.cL id off m size=>
  match bI P e,mS m lo hi,mx with
  |some n,some (l,h),none=>if n=size/\(l=0\/l<m)then some (.cL id (off+l*n) (h-l) n)else none
  |_,_,_=>none
 |some (.slice e),.eB id ver off m size=>
  match bI P e,mS m lo hi with
  |some n,some (l,h)=>
   if n=size then
    match mx with
    |none=>if l=0\/l<m then some (.eB id ver (off+l*n) (h-l) n)else some (.slice n [] .any)
    |some mv=>match hi,gN mv with
     |some _,some k=>if k=h/\l=h then some (.slice n [] .full)else none
     |_,_=>none
   else none
  |_,_=>none
 |some (.array len e),.ptr id off=>
  match bI P e,mS len lo hi,mx with
  |some n,some (l,h),none=>if len<=1000000/\(l=0\/l<len)then some (.cL id (off+l*n) (h-l) n)else none
  |_,_,_=>none
 |_,_=>none
def OO(P:Program)(s:TypeId)(x:PD)(f:Nat):Option PD:=
 match P.underlying s with
 |some (.struct fs)=>match fs[f]? with
  |some fd=>match bI P fd.type with
   |some n=>if n=0 then none else match x with
    |.ptr id off=>some (.ptr id (off+fd.offset))
    |.cI cs off=>some (.cI cs (off+fd.offset))
    |.fD id ver off=>some (.fD id ver (off+fd.offset))
    |_=>none
   |none=>none
  |none=>none
 |_=>none
def T8(P:Program)(t:TypeId)(x:PD)(f:Nat):Option PD:=
 match P.underlying t,x with
 |some (.struct fs),.agg cs=>match fs[f]? with
  |some fd=>nN P fd.type cs fd.offset
  |none=>none
 |_,_=>none
def MS(P:Program)(t:TypeId)(x:PD)(i:PD):Option PD:=
 match gN (some i),P.underlying t with
 |some i,some (.array len e)=>match bI P e with
  |some n=>if i<len then(match x with
    |.ptr id off=>some (.ptr id (off+i*n))
    |.cI cs off=>some (.cI cs (off+i*n))
    |.fD id ver off=>some (.fD id ver (off+i*n))
    |_=>none)else none
  |none=>none
 |some i,some (.slice e)=>match x,bI P e with
  |.slice size xs _,some n=>if (xs.length=0\/n=size)/\0<n then(match xs[i]? with
    |some p=>some (.cI p.cells 0)
    |none=>none)else none
  |.cL id off m size,some n=>if n=size/\i<m then some (.ptr id (off+i*n))else none
  |.eB id ver off m size,some n=>if n=size/\i<m then some (.fD id ver (off+i*n))else none
  |_,_=>none
 |_,_=>none
def MT(P:Program)(t:TypeId)(x:PD)(i:PD):Option PD:=
 match gN (some i),P.underlying t,x with
 |some i,some (.array len e),.agg cs=>match bI P e with
  |some n=>if i<len then nN P e cs (i*n)else none
  |none=>none
 |some i,some .string,.str s=>match s[i]? with|some b=>some (.int .u8 b.toNat)|none=>none
 |_,_,_=>none
def UD(P:Program):List Field->Option (List (Nat×Nat))
 | []=>some []
 |f::fs=>match bI P f.type,UD P fs with
  |some n,some ps=>some ((f.offset,n)::ps)
  |_,_=>none
def jG(cs:List PD)(off:Nat)(new:List PD):List PD:=cs.take off++new++cs.drop (off+new.length)
def KA(place:Nat->Option (Nat×Nat))(cs:List PD):List (Nat×PD)->Option (List PD)
 | []=>some cs
 |(i,p)::rest=>match place i with
  |none=>none
  |some (off,n)=>if p.cells.length≠n\/off+p.cells.length > cs.length\/p.cells.all PD.plain=false then none else KA place (jG cs off p.cells) rest
def sU(fr:List PD):List (Nat×Operand)->Option (List (Nat×PD))
 | []=>some []
 |(i,x)::r=>match aT fr x,sU fr r with
  |some p,some ps=>some ((i,p)::ps)
  |_,_=>none
def T9(P:Program)(t:TypeId)(parts:List (Nat×PD)):Option PD:=
 match dT P t with
 |some (.agg z)=>match P.underlying t with
  |some (.struct fs)=>match UD P fs.toList with
   |some pl=>match KA (pl[·]?) z parts with|some cs=>some (.agg cs)|none=>none
   |none=>none
  |some (.array _ e)=>match bI P e with
   |some n=>match KA (λi=>some (i*n,n)) z parts with|some cs=>some (.agg cs)|none=>none
   |none=>none
  |_=>none
 |_=>none
def QZ(lt:Bool):PD->List PD->Option PD
 |.int k x,[]=>some (.int k x)
 |.int k x,.int _ y::r=>QZ lt (.int k (if lt then(if y<x then y else x)else(if y > x then y else x))) r
 |_,_=>none
def MU(P:Program)(b:Builtin)(argTypes:Array TypeId)(args:List PD):Option PD:=
 match b with
 |.len=>match argTypes[0]? with
   |some t=>match P.underlying t,args with
    |some .string,.str s::_=>some (.int .i64 s.length)
    |some (.array n _),_::_=>some (.int .i64 n)
    |some (.slice _),.slice _ xs _::_=>some (.int .i64 xs.length)
    |some (.slice _),.cL _ _ n _::_=>some (.int .i64 n)
    |some (.slice _),.eB _ _ _ n _::_=>some (.int .i64 n)
    |_,_=>none
   |none=>none
 |.min=>match args with|x::r=>QZ true x r | []=>none
 |.max=>match args with|x::r=>QZ false x r | []=>none
 |.cap=>match argTypes[0]? with
   |some t=>match P.underlying t,args with
    |some (.slice _),.slice _ xs .full::_=>some (.int .i64 xs.length)
    |_,_=>none
   |none=>none
 |_=>none
def GY:PD->Option Bool
 |.slice n xs tok=>if xs.length≠0/\n≠0 then some false else(match tok with
   |.nil=>some true
   |.vJ=>some true
   |.vK=>some false
   |_=>none)
 |.cL _ _ _ _=>some false
 |.eB _ _ _ _ _=>some false
 |_=>none
def UA(P:Program)(op:BinOp)(t:TypeId)(a:PD)(y:Operand):Option PD:=
 match y with
 |.const (.slice none 0 0)=>(match P.underlying t with
   |some (.slice _)=>(match op,GY a with
    |.eql,some b=>some (.bool b)
    |.neq,some b=>some (.bool (!b))
    |_,_=>none)
   |_=>none)
 |.const .nilIface=>(match P.underlying t with
   |some (.interface _)=>(match op,a with
    |.eql,.iface _ _=>some (.bool false)
    |.neq,.iface _ _=>some (.bool true)
    |.eql,.bG .nilIface=>some (.bool true)
    |.neq,.bG .nilIface=>some (.bool false)
    |_,_=>none)
   |_=>none)
 |_=>none
def dB(P:Program)(fr:List PD):Op->Option PD
 |.move x|.assign x=>aT fr x
 |.pick c a b=>match aT fr c with
   |some (.bool true)=>aT fr a
   |some (.bool false)=>aT fr b
   |_=>none
 |.binOp op t x y _=>match aT fr x,aT fr y with
   |some a,some b=>(match eO P op t a b with|some r=>some r|none=>UA P op t a y)
   |_,_=>none
 |.unOp op _ x=>match aT fr x with|some a=>T7 op a|none=>none
 |.convert s d x=>if QV s d=true then none else match aT fr x with|some a=>YQ P s d a|none=>none
 |.makeFunc (.func f) first captured=>if first.size=0 then(match jQ fr captured.toList with|some ps=>some (.func f ps)|none=>none)
   else if captured.size=0 then(match jQ fr first.toList with|some ps=>some (.jS f ps)|none=>none)else none
 |.slice t x lo hi mx=>match aT fr x with
   |some a=>GZ P t a (lo.map (aT fr)) (hi.map (aT fr)) (mx.map (aT fr))
   |none=>none
 |.fieldAddr s x f=>match aT fr x with|some a=>OO P s a f|none=>none
 |.field t x f=>match aT fr x with|some a=>T8 P t a f|none=>none
 |.indexAddr t x i=>match aT fr x,aT fr i with
   |some a,some b=>MS P t a b
   |_,_=>none
 |.index t x i=>match aT fr x,aT fr i with
   |some a,some b=>MT P t a b
   |_,_=>none
 |.extract x i=>match aT fr x with
   |some (.aI vs)=>vs[i]?
   |_=>none
 |.nilCheck x=>match aT fr x with
   |some (.ptr id off)=>some (.ptr id off)
   |some (.cI cs off)=>some (.cI cs off)
   |some (.fD id ver off)=>some (.fD id ver off)
   |_=>none
 |.build t parts=>match sU fr parts.toList with|some ps=>T9 P t ps|none=>none
 |.call { callee:=.builtin b,args:=args,argTypes:=ts }=>match jQ fr args.toList with
   |some ps=>MU P b ts ps
   |none=>none
 |.typeAssert x _ t true=>match P.underlying t with
   |some (.struct _)=>(match aT fr x with|some (.iface u p)=>if u=t then some (.aI [p,.bool true])else none|_=>none)
   |_=>none
 |.makeInterface t x=>match P.underlying t with
   |some (.struct _)=>(match aT fr x with|some p=>some (.iface t p)|none=>none)
   |_=>none
 |_=>none
def kW(P:Program)(σ:List U)(t:TypeId):PD->Option PD
 |.ptr id off=>match σ[id]? with
   |some (.box p)=>nN P t p.cells off
   |_=>none
 |.cI cs off=>nN P t cs off
 |.fD id ver off=>match σ[id]? with
   |some (.row _ _ fH cs)=>if ver=fH then nN P t cs off else none
   |_=>none
 |_=>none
def G1:PD->PD
 |.slice 0 [] .full=>.slice 0 [] .nil
 |p=>p
def boxed(t:TypeId):PD->PD
 |.agg cs=>if G0 t=true then .typed t (cs.map G1)else .agg cs
 |p=>p
def nP(t:TypeId):PD->PD
 |.agg cs=>if G0 t=true then .typed t cs else .agg cs
 |p=>p
def PD.setCells(p:PD)(off:Nat)(new:List PD):Option PD:=
 match p with
 |.agg cs=>if off+new.length<=cs.length then some (.agg (jG cs off new))else none
 |.typed t cs=>if off+new.length<=cs.length then some (.typed t (jG cs off new))else none
 |_=>if off=0 then(match new with | [q]=>some q|_=>none)else none
def qO(P:Program)(fl:Nat)(σ:List U)(t:TypeId)(a p:PD):Option (List U):=
 match a with
 |.ptr id off=>if fl<=id then(match σ[id]?,bI P t with
   |some (.box q),some n=>if p.cells.length=n/\p.cells.all PD.plain=true then(match q.setCells off p.cells with
     |some q'=>some (σ.set id (.box q'))
     |none=>none)else none
   |_,_=>none)else none
 |.fD id ver off=>if fl<=id then(match σ[id]?,bI P t with
   |some (.row e sz fH cs),some n=>if ver=fH/\p.cells.length=n/\p.cells.all PD.plain=true/\off+n<=cs.length then some (σ.set id (.row e sz ver (jG cs off p.cells)))else none
   |_,_=>none)else none
 |_=>none
def UC(i:Nat):List (Nat×PD)->Option (List PD)
 | []=>some []
 |(j,p)::r=>if j=i then(match UC (i+1) r with|some ps=>some (p::ps)|none=>none)else none
def J7(P:Program)(t:TypeId)(len:Nat)(parts:List (Nat×PD)):Option PD:=
 match P.underlying t with
 |some (.slice e)=>match bI P e,dT P e,UC 0 parts with
  |some n,some z,some ps=>
   if ps.length=len/\0<n/\len*n<=16777216/\ps.all (λp=>p.cells.length=n&&p.cells.all PD.plain)=true/\z.cells.length=n/\z.cells.all PD.plain=true then some (.slice n ps .full)else none
  |_,_,_=>none
 |_=>none
def xT(P:Program)(t:TypeId):Bool:=
 match P.underlying t with
 |some (.slice e)=>match P.info? e with
  |some i=>match i.zero with
   |some (.int .u8 0)=>i.size==1&&i.bytes==1
   |_=>false
  |none=>false
 |_=>false
def dX(P:Program)(fl:Nat)(σ:List U)(t:TypeId)(s x:PD):Option (PD×List U):=
 match P.underlying t with
 |some (.slice e)=>match P.info? e with
  |some i=>match i.zero,s,x with
   |some z,.slice sz xs tok,.slice sz' ys _=>
    if (xs.length=0\/sz=i.size)/\(ys.length=0\/sz'=i.size)/\0<i.size/\z.cells.size=i.size/\xs.length+ys.length<=maxLen /\
        (xs.length+ys.length)*i.bytes<=140737488355328 then
     if ys.length=0 then some (s,σ)else
     match tok with
     |.full=>some (.slice i.size (xs++ys) (.own σ.length),σ++[.own e i.size (xs.length+ys.length)])
     |.nil=>some (.slice i.size (xs++ys) (.own σ.length),σ++[.own e i.size (xs.length+ys.length)])
     |.own id=>if fl<=id/\sz=i.size then(match σ[id]? with
       |some (.own e' kO n)=>if e'=e/\kO=i.size/\n=xs.length then
         some (.slice i.size (xs++ys) (.own id),σ.set id (.own e i.size (xs.length+ys.length)))else none
       |_=>none)else none
     |_=>none
    else none
   |_,_,_=>none
  |none=>none
 |_=>none
def s5(z:PD)(n l:Nat):List PD:=(List.range (l*n)).map λk=>z.cells.getD (k%n) (.aI [])
def E3(n:Nat):Nat->List PD->Dq
 |0,_=>[]
 |k+1,cs=>.agg (cs.take n)::E3 n k (cs.drop n)
def UU(σ:List U):PD->Option (Nat×List PD)
 |.slice sz ys _=>some (sz,ys)
 |.eB id ver off n sz=>match σ[id]? with
   |some (.row _ sz' fH cs)=>if ver=fH/\sz'=sz/\off+n*sz<=cs.length then some (sz,E3 sz n (cs.drop off))else none
   |_=>none
 |.cL id off n sz=>match σ[id]? with
   |some (.box q)=>if off+n*sz<=q.cells.length then some (sz,E3 sz n (q.cells.drop off))else none
   |_=>none
 |_=>none
def Tok.fresh:Tok->Bool
 |.full=>true
 |_=>false
def nO(P:Program)(n:Nat)(fl:Nat)(σ:List U)(t:TypeId)(s x:PD):Option (PD×List U):=
 if qS t n=true then
  match P.underlying t,UU σ x with
  |some (.slice e),some (sz',ys)=>match P.info? e with
   |some i=>match i.zero with
    |some z=>
     if (ys.length=0\/sz'=i.size)/\0<i.size/\z.cells.size=i.size/\z.cells.toList.all Value.oneCell'=true then
      match s with
      |.slice sz xs tok=>
        if (xs.length=0\/sz=i.size)/\xs.length+ys.length<=maxLen/\(xs.length+ys.length)*i.bytes<=140737488355328/\tok.fresh=true then
         if ys.length=0 then some (s,σ)
         else some (.eB σ.length 0 0 (xs.length+ys.length) i.size,σ++[.row e i.size 0 ((xs++ys).flatMap PD.cells)])
        else none
      |.eB id ver off n sz=>
        if fl<=id/\sz=i.size/\n+ys.length<=maxLen/\(n+ys.length)*i.bytes<=140737488355328 then
         match σ[id]? with
         |some (.row e' kO fH cs)=>
          if e'=e/\kO=i.size/\fH=ver then
           if off+(n+ys.length)*i.size<=cs.length then some (.eB id ver off (n+ys.length) i.size,σ.set id (.row e i.size ver (jG cs (off+n*i.size) (ys.flatMap PD.cells))))
           else if off=0/\n*i.size=cs.length then some (.eB id (ver+1) 0 (n+ys.length) i.size,σ.set id (.row e i.size (ver+1) (cs++ys.flatMap PD.cells)))
           else none
          else none
         |_=>none
        else none
      |_=>none
     else none
    |none=>none
   |none=>none
  |_,_=>none
 else none
def OS(P:Program)(n:Nat)(σ:List U)(t:TypeId)(s:PD)(m:Int):Option (PD×List U):=
 match P.underlying t,s with
 |some (.slice e),.slice _ [] .full=>if xT P t=true/\qS t n=true/\0<m/\m<=1000000000 then some (.eB σ.length 0 0 m.toNat 1,σ++[.row e 1 0 (List.replicate m.toNat (.int .u8 0))])else none
 |_,_=>none
def aFa(P:Program)(fl:Nat)(σ:List U)(t:TypeId)(s:PD):Option (List U):=
 match P.underlying t with
 |some (.slice e)=>match s with
  |.slice _ [] _=>some σ
  |.eB id ver off n sz=>match σ[id]?,bI P e,dT P e with
    |some (.row e' kO fH cs),some m,some z=>
     if fl<=id/\fH=ver/\kO=sz/\m=sz/\z.cells.length=sz/\z.cells.all PD.plain=true/\off+n*sz<=cs.length/\0<sz then some (σ.set id (.row e' kO ver (jG cs off (s5 z sz n))))else none
    |_,_,_=>none
  |_=>none
 |_=>none
def aFc(P:Program)(σ:List U)(st:TypeId)(x:PD):Option (Nat×List PD):=
 match x with
 |.str l=>match P.underlying st with
   |some .string=>some (1,l.map λb=>.int .u8 b.toNat)
   |_=>none
 |_=>UU σ x
def aFe(P:Program)(fl:Nat)(σ:List U)(dt st:TypeId)(d x:PD):Option (PD×List U):=
 match P.underlying dt,aFc P σ st x with
 |some (.slice e),some (sz',ys)=>match bI P e with
  |some sz=>
   if ys.length=0\/sz'=sz then
    match d with
    |.slice _ [] _=>some (.int .i64 0,σ)
    |.cL id off n kO=>if fl<=id/\kO=sz/\((ys.take n).flatMap PD.cells).all PD.plain=true then(match σ[id]? with
      |some (.box q)=>(match q.setCells off ((ys.take n).flatMap PD.cells)with
       |some q'=>some (.int .i64 (Nat.min ys.length n),σ.set id (.box q'))
       |none=>none)
      |_=>none)else none
    |.eB id ver off n kO=>if fl<=id/\kO=sz then(match σ[id]? with
      |some (.row e' MY fH cs)=>if fH=ver/\MY=sz/\off+((ys.take n).flatMap PD.cells).length<=cs.length then
        some (.int .i64 (Nat.min ys.length n),σ.set id (.row e' MY ver (jG cs off ((ys.take n).flatMap PD.cells))))else none
      |_=>none)else none
    |_=>none
   else none
  |none=>none
 |_,_=>none
def UY(P:Program)(kt:TypeId)(k:PD):Bool:=
 match P.underlying kt,k with
 |some .string,.str _=>true
 |some (.int k0),.int k1 _=>k0==k1
 |_,_=>false
def RG:PD->PD->Option Bool
 |.str a,.str b=>some (a==b)
 |.int k a,.int k' b=>if k=k' then some (a==b)else none
 |_,_=>none
def G6(k:PD):List (PD×PD)->Nat->Option (Option (Nat×PD))
 | [],_=>some none
 |e::es,i=>match RG k e.1 with
  |some true=>some (some (i,e.2))
  |some false=>G6 k es (i+1)
  |none=>none
def UZ(P:Program)(σ:List U)(t:TypeId)(x k:PD)(ok:Bool):Option PD:=
 match P.underlying t with
 |some (.map kt e)=>if UY P kt k=true then(match x with
   |.fA id=>(match σ[id]? with
     |some (.map es)=>(match G6 k es 0 with
      |some (some (_,v))=>some (if ok then .aI [v,.bool true]else v)
      |some none=>(match dT P e with
       |some z=>some (if ok then .aI [z,.bool false]else z)
       |none=>none)
      |none=>none)
     |_=>none)
   |.bG (.map none)=>(match dT P e with
     |some z=>some (if ok then .aI [z,.bool false]else z)
     |none=>none)
   |_=>none)else none
 |_=>none
def U0(P:Program)(fl:Nat)(σ:List U)(t:TypeId)(x k v:PD):Option (List U):=
 match P.underlying t with
 |some (.map kt _)=>if UY P kt k=true then(match x with
   |.fA id=>if fl<=id then(match σ[id]? with
     |some (.map es)=>(match G6 k es 0 with
      |some (some (i,_))=>some (σ.set id (.map (es.set i (k,v))))
      |some none=>some (σ.set id (.map (es++[(k,v)])))
      |none=>none)
     |_=>none)else none
   |_=>none)else none
 |_=>none
def Q0:List PD->Option (List UInt8)
 | []=>some []
 |.int .u8 n::r=>match Q0 r with|some l=>some (UInt8.ofNat n.toNat::l)|none=>none
 |_=>none
def YP(P:Program)(s d:TypeId)(x:PD):Option PD:=
 match P.underlying s,P.underlying d,x with
 |some .string,some (.slice e),.str l=>match P.underlying e with
  |some (.int .u8)=>if l.length<=maxLen then some (.slice 1 (l.map λb=>.int .u8 b.toNat) .any)else none
  |_=>none
 |some (.slice e),some .string,.slice sz xs _=>match P.underlying e with
  |some (.int .u8)=>if xs.length=0\/sz=1 then(match Q0 xs with|some l=>some (.str l)|none=>none)else none
  |_=>none
 |_,_,_=>none
def EZ(σ:List U):PD->Option (List PD)
 |.cL id off n size=>if size=1 then(match σ[id]? with
   |some (.box p)=>if off+n<=p.cells.length then some ((p.cells.drop off).take n)else none
   |_=>none)else none
 |_=>none
def O1(P:Program)(σ:List U)(s d:TypeId)(x:PD):Option PD:=
 match EZ σ x,P.underlying s,P.underlying d with
 |some xs,some (.slice e),some .string=>(match P.underlying e,Q0 xs with
  |some (.int .u8),some l=>some (.str l)
  |_,_=>none)
 |_,_,_=>none
def xS(P:Program)(σ:List U)(t e:TypeId)(l k:Nat):Option (PD×List U):=
 match P.info? e,bI P e,dT P e with
 |some i,some n,some z=>
  if l<=k/\0<n/\z.cells.length=n/\z.cells.all PD.plain=true/\k<=maxLen/\k*i.bytes<=140737488355328 then
   if l=0/\k≠0 then some (.slice n [] (.own σ.length),σ++[.own e n 0])
   else if l=k then
    if aE3 t=true then some (.cL σ.length 0 l n,σ++[.box (.agg (s5 z n l))])else some (.slice n (List.replicate l z) .full,σ)
   else none
  else none
 |_,_,_=>none
def cO(P:Program)(fl:Nat)(fr:List PD)(σ:List U):Op->Option (PD×List U)
 |.load t x=>match aT fr x with
   |some a=>(match kW P σ t a with|some p=>some (p,σ)|none=>none)
   |none=>none
 |.store t x y=>match aT fr x,aT fr y with
   |some a,some p=>(match qO P fl σ t a p with|some σ'=>some (.aI [],σ')|none=>none)
   |_,_=>none
 |.alloc t=>match dT P t with
   |some p=>if p.cells.all PD.plain then some (.ptr σ.length 0,σ++[.box (boxed t p)])else none
   |none=>none
 |.box t x=>match aT fr x with
   |some p=>if p.cells.all PD.plain then some (.ptr σ.length 0,σ++[.box (nP t p)])else none
   |none=>none
 |.buildSlice t len parts=>match sU fr parts.toList with
   |some ps=>(match J7 P t len (ps.map λq=>(q.1,q.2.strip))with|some p=>some (p,σ)|none=>none)
   |none=>none
 |.convert s d x=>if QV s d=true then(match aT fr x with
   |some a=>(match YP P s d a with|some p=>some (p,σ)|none=>(match O1 P σ s d a with|some p=>some (p,σ)|none=>none))
   |none=>none)else none
 |.makeSlice t l k=>match P.underlying t,gN (aT fr l),gN (aT fr k)with
   |some (.slice e),some l,some k=>xS P σ t e l k
   |_,_,_=>none
 |.call { callee:=.builtin .clear,args:=args,argTypes:=ts }=>match jQ fr args.toList,ts.toList with
   |some [s],[t]=>(match aFa P fl σ t s with|some σ'=>some (.aI [],σ')|none=>none)
   |_,_=>none
 |.call { callee:=.builtin .copy,args:=args,argTypes:=ts }=>match jQ fr args.toList,ts.toList with
   |some [d,x],[t,t']=>aFe P fl σ t t' d x
   |_,_=>none
 |.makeMap t none=>match P.underlying t with
   |some (.map _ _)=>some (.fA σ.length,σ++[.map []])
   |_=>none
 |.lookup t x k ok=>match aT fr x,aT fr k with
   |some m,some k=>(match UZ P σ t m k ok with|some p=>some (p,σ)|none=>none)
   |_,_=>none
 |.mapUpdate t x k v=>match aT fr x,aT fr k,aT fr v with
   |some m,some k,some v=>(match U0 P fl σ t m k v with|some σ'=>some (.aI [],σ')|none=>none)
   |_,_,_=>none
 |.call { callee:=.builtin .append,args:=args,argTypes:=ts }=>match jQ fr args.toList,ts.toList with
   |some [s,x],[t,t']=>if t=t' then(match nO P fr.length fl σ t s x with|some r=>some r|none=>dX P fl σ t s x.strip)else(match P.underlying t',x with
    |some .string,.str l=>if xT P t=true then(match nO P fr.length fl σ t s (.slice (if l.length=0 then 0 else 1) (l.map λb=>.int .u8 b.toNat) .any)with|some r=>some r|none=>dX P fl σ t s (.slice (if l.length=0 then 0 else 1) (l.map λb=>.int .u8 b.toNat) .any))else none
    |some (.int .i64),.int .i64 m=>OS P fr.length σ t s m
    |_,_=>none)
   |_,_=>none
 |_=>none
def pop(P:Program)(fl:Nat)(fr:List PD)(σ:List U)(op:Op):Option (PD×List U):=
 match dB P fr op with
 |some p=>some (p,σ)
 |none=>cO P fl fr σ op
def dO(fr:List PD):Op->Option ((FuncId ⊕ Nat)×List PD)
 |.call { callee:=.value g,args:=args,.. }=>match aT fr g,jQ fr args.toList with
   |some (.func f cap),some ps=>some (.inl f,ps++cap)
   |some (.jS f first),some ps=>some (.inl f,first++ps)
   |some (.yield id),some ps=>some (.inr id,ps)
   |_,_=>none
 |_=>none
def aM(fr:List PD)(dst:Option Tmp)(p:PD):List PD:=
 match dst with
 |some d=>fr.set d p
 |none=>fr
def bA(ops:Array Oper)(fr:List PD)(j:Nat):Option Bool:=
 match (ops[j]?).bind (·.dst)with
 |some d=>match fr[d]? with
  |some (.bool b)=>some b
  |_=>none
 |none=>none
section
theorem aFl{c:Cx}{v:Value}{p:PD}(h:J9 v=some p):VR c v p/\v.oneCell'=true:=by
 unfold J9 at h;split at h<;>simp at h<;>subst h
 .exact⟨.bool _,rfl⟩
 .exact⟨.int _ _,rfl⟩
 .rename_i s;refine⟨?_,rfl⟩;exact so
 .refine⟨.slice none 0 0 0 [] .full [] rfl (yAk _) (by simp[maxLen]) yo rfl yo yo yo rfl,rfl⟩
 .exact⟨.cQ,rfl⟩
 .exact⟨.iC,rfl⟩
 .exact⟨.bG _ rfl,rfl⟩
 .exact⟨.bG _ rfl,rfl⟩
theorem aKU{c:Cx}:∀ {vs:Ds} {ps:Dq},ET vs=some ps->aK c vs ps/\∀v∈vs,v.oneCell'=true
 | [],ps,h=>by simp[ET]at h;subst h;exact⟨⟨rfl,yo⟩,yo⟩
 |v::vs,ps,h=>by
  unfold ET at h;cases h1:J9 v with
  |none=>simp[h1]at h
  |some p=>
   cases h2:ET vs with
   |none=>simp[h1,h2]at h
   |some qs=>
    simp[h1,h2]at h;subst h;have⟨a1,a2⟩:=aFl (c:=c) h1;have⟨⟨b1,b2⟩,b3⟩:=aKU (c:=c) h2;refine⟨⟨by simp[b1],λi v' d hv hd=>?_⟩,by simp[a2];exact b3⟩;exact jz
theorem aFm{c:Cx}{v:Value}{p:PD}(h:ofValue v=some p):VR c v p:=by
 unfold ofValue at h;split at h
 .rename_i cs;cases h1:ET cs.toList with
  |none=>simp[h1]at h
  |some ps=>
   simp[h1]at h;subst h;have⟨⟨b1,b2⟩,b3⟩:=aKU (c:=c) h1;have:=VR.agg (c:=c) cs.toList ps b1 b3 b2;exact bp
 .rename_i vs;split at h
  .rename_i h0;simp at h;subst h;have:vs=#[]:=yDW h0;subst this;exact VR.aI [] [] rfl yo
  .exact ah
 .exact(aFl h).1
def FR(c:Cx)(a:Act)(fr:List PD):Prop:=aK c a.tmps.toList fr/\Gl c
theorem FR.mono{fl:Nat}{c c':Cx}(h:Nx fl c c'){a:Act}{fr:Dq}(hf:FR c a fr):FR c' a fr:=⟨aK.mono h hf.1,hf.2.mono h⟩
theorem ZI(c:Cx):VR c undef (.aI []):=VR.aI [] [] rfl yo
theorem FR.tmp{c:Cx}{a:Act}{fr:Dq}(hf:FR c a fr)(t:Nat):VR c (a.tmps.getD t undef) (fr.getD t (.aI [])):=by
 obtain⟨⟨hl,h⟩,_⟩:=hf;rcases yBF t fr.length with hlt|hge
 .have h1:t<a.tmps.size:=by have:=hl;simp at this;omega
  have:=h t a.tmps[t] fr[t] (by simp[h1]) Cd;simpa [h1,hlt]using this
 .have h1:a.tmps.size<=t:=by have:=hl;simp at this;omega
  simp[Array.getElem?_eq_none h1,yBo hge];exact ZI c
theorem cY{c:Cx}{a:Act}{fr:Dq}(hf:FR c a fr){x:Operand}{p:PD}(h:aT fr x=some p):VR c (a.eval x) p:=by
 cases x with
 |tmp t=>simp only[aT,yAb]at h;subst h;exact hf.tmp t
 |const v=>exact aFm h
 |global g=>
  simp only[aT]at h;split at h
  .rename_i ds hg;simp only[yAb]at h;subst h;exact hf.2.1 g ds hg
  .exact ah
 |func f=>simp only[aT,yAb]at h;subst h;exact VR.func f [] [] rfl yo
theorem pL{c:Cx}{a:Act}{fr:Dq}(hf:FR c a fr):∀ {xs:List Operand} {ps:Dq},jQ fr xs=some ps->aK c (xs.map a.eval) ps
 | [],ps,h=>by simp[jQ]at h;subst h;exact⟨rfl,yo⟩
 |x::xs,ps,h=>by
  unfold jQ at h;cases h1:aT fr x with
  |none=>simp[h1]at h
  |some p=>
   cases h2:jQ fr xs with
   |none=>simp[h1,h2]at h
   |some qs=>
    simp[h1,h2]at h;subst h;have a1:=cY hf h1;have⟨b1,b2⟩:=pL hf h2;refine⟨by simpa using b1,λi v d hv hd=>?_⟩;cases i with
    |zero=>simp at hv hd;subst hv;subst hd;exact a1
    |succ i=>exact b2 i v d (by simpa using hv) Av
section inv
variable{c:Cx}{v:Value}
theorem VR.OY{b:Bool}(h:VR c v (.bool b)):v=.bool b:=Bf
theorem VR.pR{k:IntKind}{n:Int}(h:VR c v (.int k n)):v=.int k n:=Bf
theorem VR.sZ{s:Dr}(h:VR c v (.str s)):v=.string ⟨s.toArray⟩:=Bf
theorem VR.M7{ds:Dq}(h:VR c v (.agg ds)):∃cs:List Value,v=.agg cs.toArray/\aK c cs ds/\∀v∈cs,v.oneCell'=true:=by
 cases h with|agg cs _ h1 h2 h3=>exact⟨cs,rfl,⟨h1,h3⟩,h2⟩
theorem VR.aUd{ds:Dq}(h:VR c v (.aI ds)):∃cs:List Value,v=.tuple cs.toArray/\aK c cs ds:=by
 cases h with|aI cs _ h1 h2=>exact⟨cs,rfl,⟨h1,h2⟩⟩
theorem VR.UK{f:Nat}{ds:Dq}(h:VR c v (.func f ds)):∃cs:List Value,v=.func (.func f) #[] cs.toArray/\aK c cs ds:=by
 cases h with|func _ cs _ h1 h2=>exact⟨cs,rfl,⟨h1,h2⟩⟩
theorem VR.aES{f:Nat}{ds:Dq}(h:VR c v (.jS f ds)):∃cs:List Value,v=.func (.func f) cs.toArray #[]/\aK c cs ds:=by
 cases h with|jS _ cs _ h1 h2=>exact⟨cs,rfl,⟨h1,h2⟩⟩
theorem VR.qN{id off:Nat}(h:VR c v (.ptr id off)):∃b,v=.pointer (some ⟨b,off,none⟩)/\c.D id/\(∃p,c.σ[id]?=some (.box p))/\c.ρ id=.pointer (some ⟨b,0,none⟩):=by
 cases h with|ptr _ _ b h1 h2 h3=>exact⟨b,rfl,h1,h2,h3⟩
theorem VR.M4{id off n size:Nat}(h:VR c v (.cL id off n size)):∃b cap,v=.slice (some ⟨b,off,none⟩) n cap/\c.D id/\(∃p,c.σ[id]?=some (.box p))/\c.ρ id=.pointer (some ⟨b,0,none⟩)/\n<=cap/\cap<=maxLen:=by
 cases h with|cL _ _ _ cap _ b h1 h2 h3 h4 h5=>exact⟨b,cap,rfl,h1,h2,h3,h4,h5⟩
theorem VR.O8{id ver off n size:Nat}(h:VR c v (.eB id ver off n size)):∃b cap,v=.slice (some ⟨b,off,none⟩) n cap/\O9 c id ver (λsz r=>sz=size/\∃C,r=.slice (some ⟨b,0,none⟩) 0 C/\off+cap*size=C*size)/\n<=cap/\cap<=maxLen:=by
 cases h with|eB _ _ _ _ cap _ b h1 h2 h3=>exact⟨b,cap,rfl,h1,h2,h3⟩
theorem VR.UR{id ver off:Nat}(h:VR c v (.fD id ver off)):∃b,v=.pointer (some ⟨b,off,none⟩)/\O9 c id ver (λ_ r=>∃C,r=.slice (some ⟨b,0,none⟩) 0 C):=by
 cases h with|fD _ _ _ b h1=>exact⟨b,rfl,h1⟩
theorem VR.aTM{id:Nat}(h:VR c v (.fA id)):∃b,v=.map (some b)/\c.D id/\mC c.σ[id]?/\c.ρ id=.map (some b):=by
 cases h with|fA _ b h1 h2 h3=>exact⟨b,rfl,h1,h2,h3⟩
theorem VR.aFo{t:TypeId}{p:PD}(h:VR c v (.iface t p)):∃u,v=.iface t u/\VR c u p:=by
 cases h with|iface _ u _ h1=>exact⟨u,rfl,h1⟩
theorem VR.OJ(h:VR c v .cQ):v=.pointer none:=Bf
theorem VR.aCe(h:VR c v .iC):v=.nilFunc:=Bf
theorem VR.U2{ds:Dq}{off:Nat}(h:VR c v (.cI ds off)):∃(ad:Addr) (fl:List Value),v=.pointer (some (ad.add off))/\aK c fl ds/\(∀v∈fl,v.oneCell'=true) /\
  ∀(j:Nat) (v:Value),fl[j]?=some v->c.w.cell? (ad.add j)=some v/\c.av (ad.add j):=by
 cases h with|cI ad fl _ _ h1 h2 h3 h4=>exact⟨ad,fl,rfl,⟨h1,h4⟩,h2,h3⟩
theorem VR.oH{size:Nat}{xs:Dq}{tok:Tok}(h:VR c v (.slice size xs tok)):∃(A:Option Addr) (cap:Nat) (fl:List Value),v=.slice A xs.length cap/\xs.length<=cap/\cap<=maxLen /\
  (∀x∈xs,x.cells.length=size)/\fl.length=xs.length*size/\(∀v∈fl,v.oneCell'=true) /\
  (∀(j:Nat) (v:Value),fl[j]?=some v->∃ad,A=some ad/\c.w.cell? (ad.add j)=some v/\c.av (ad.add j)) /\
  (∀(j:Nat) (v:Value) (d:PD),fl[j]?=some v->(xs.flatMap PD.cells)[j]?=some d->VR c v d)/\qW c size xs.length cap (.slice A xs.length cap) tok:=by
 cases h with|slice A n cap _ _ _ fl h1 h2 h3 h4 h5 h6 h7 h8 h9=>subst h1;exact⟨A,cap,fl,rfl,h2,h3,h4,h5,h6,h7,h8,h9⟩
end inv
theorem VR.cells{c:Cx}{v:Value}{p:PD}(h:VR c v p):aK c v.cells.toList p.cells:=by
 cases h with
 |agg cs ds h1 h2 h3=>exact⟨by simpa [Value.cells,PD.cells]using h1,by simpa [Value.cells,PD.cells]using h3⟩
 |bG v h=>
  have e:v.cells=#[v]:=by cases v<;>first|rfl|simp[aFs]at h
  rw[e];refine⟨rfl,λi v' d hv hd=>?_⟩;cases i with
  |zero=>
   simp[PD.cells]at hv hd;subst hv;subst hd;exact .bG v h
  |succ i=>simp at hv
 |_=>
  refine⟨by simp[Value.cells,PD.cells],λi v' d hv hd=>?_⟩;cases i with
  |zero=>
   simp[Value.cells,PD.cells]at hv hd;subst hv;subst hd
   constructor<;>assumption
  |succ i=>simp[Value.cells]at hv
theorem VR.plain{c:Cx}{v:Value}{p:PD}(h:VR c v p):p.plain=v.oneCell':=by
 cases h with
 |bG v h=>cases v<;>first|rfl|simp[aFs]at h
 |_=>rfl
theorem aK.G3{c:Cx}{cs:Ds}{ds:Dq}(h:aK c cs ds)(hp:ds.all PD.plain=true):∀v∈cs,v.oneCell'=true:=by
 intro v hv;obtain⟨i,hi⟩:=yCH hv;have hlt:i<ds.length:=by rw[<-h.1];exact(yA.1 hi).1
 have h1:=h.2 i v ds[i] hi Cd;rw[<-h1.plain];exact yAn.1 hp _ (yAm hlt)
theorem aK.take_drop{c:Cx}{cs:Ds}{ds:Dq}(h:aK c cs ds)(off n:Nat):aK c ((cs.drop off).take n) ((ds.drop off).take n):=by
 refine⟨by simp[h.1],λi v d hv hd=>?_⟩;rw[yAv]at hv hd;split at hv
 .rename_i hlt;rw[yAJ hlt]at hd;rw[yBy]at hv hd;exact h.2 _ v d hv hd
 .simp at hv
theorem aK.get{c:Cx}{cs:Ds}{ds:Dq}(h:aK c cs ds){i:Nat}{d:PD}(hd:ds[i]?=some d):∃v,cs[i]?=some v/\VR c v d:=by
 have hlt:i<cs.length:=by rw[h.1];exact(yA.1 hd).1
 exact⟨cs[i],Cd,h.2 i cs[i] d Cd hd⟩
theorem aB7{P:Program}{t:TypeId}{n:Nat}(h:bI P t=some n):∃i,P.info? t=some i/\i.size=n:=by
 unfold bI at h;split at h<;>simp at h;exact⟨_,‹_›,h⟩
theorem mF{P:Program}{w:World}{t:TypeId}{n:Nat}(h:bI P t=some n):(sizeOf t).run P w=.ok n w:=by
 obtain⟨i,h1,h2⟩:=aB7 h;simp[sizeOf,typeInfo,h1,h2]
theorem aCa{P:Program}{w:World}{t:TypeId}{b:Bool}(h:fR P t=some b):(isAgg t).run P w=.ok b w:=by
 unfold fR at h;split at h<;>simp at h<;>subst h
 .rename_i hu;simp[isAgg,yAN hu]
 .rename_i hu;simp[isAgg,yAN hu]
 .rename_i d h1 h2 hu;simp only[isAgg,yAW,yAN hu,yBa];rfl
theorem U3{P:Program}{c:Cx}{cs:Ds}{ds:Dq}(h:aK c cs ds)(h1:∀v∈cs,v.oneCell'=true){t:TypeId}{off:Nat}{p:PD}(hp:nN P t ds off=some p)(w:World) :
  ∃v,(part t cs.toArray off).run P w=.ok v w/\VR c v p:=by
 unfold nN at hp;split at hp
 .rename_i n ha hs;split at hp
  .simp at hp;subst hp;refine⟨.agg ((cs.drop off).take n).toArray,?_,?_⟩
   .simp[part,aCa ha,mF hs,List.extract_toArray,List.extract_eq_take_drop]
   .have h2:=h.take_drop off n;exact .agg _ _ h2.1 (λv hv=>h1 v (yBJ (yAy hv))) h2.2
  .simp at hp
 .rename_i n ha hs;obtain⟨v,hv,hr⟩:=h.get hp;exact⟨v,by simp[part,aCa ha,hv],hr⟩
 .simp at hp
end
section
theorem aKS(l:List UInt8):(ByteArray.mk l.toArray).toList=l:=by rw[ByteArray.toList_eq]
theorem aKR{op:BinOp}{k:IntKind}{x y z:Int}(h:OR op k x y=some z)(P:Program)(w:World):(Op.intBits op k x y).run P w=.ok (.int k z) w:=by
 cases op<;>simp only[OR,yAb,reduceCtorEq]at h<;>subst h<;>rfl
theorem aUg{op:BinOp}{k:IntKind}{x y:Int}{p:PD}(h:gO op k x y=some p)(hs:op≠.shl/\op≠.shr)(c:Cx)(P:Program)(t:TypeId)(w:World) :
  ∃v,(binOp op t (.int k x) (.int k y)).run P w=.ok v w/\VR c v p:=by
 cases op<;>simp only[gO]at h<;>first
  |(simp at hs;done)
  |(simp at h;subst h;refine⟨_,?_,VR.int _ _⟩;simp[binOp,Op.intArith];done)
  |(simp at h;subst h;refine⟨_,?_,VR.bool _⟩;simp[binOp,Op.intCmp];done)
  |(split at h
    .exact ah
    .rename_i h0;simp at h;subst h;refine⟨_,?_,VR.int _ _⟩;simp[binOp,Op.intDiv,h0])
  |(split at h
    .rename_i z hz;simp at h;subst h;refine⟨_,?_,VR.int _ _⟩;simp only[binOp,ne_eq,yBr,yAO];exact aKR hz P w
    .simp at h)
theorem aKO{op:BinOp}{k k':IntKind}{x y:Int}{p:PD}(h:YU op k x y=some p)(hs:op=.shl\/op=.shr)(c:Cx)(P:Program)(t:TypeId)(w:World) :
  ∃v,(binOp op t (.int k x) (.int k' y)).run P w=.ok v w/\VR c v p:=by
 unfold YU at h;split at h
 .exact ah
 .rename_i h0;rcases hs with rfl|rfl<;>simp at h<;>subst h<;>refine⟨_,?_,VR.int _ _⟩<;>simp[binOp,Op.shift,h0]
theorem aUi(a b:List UInt8):(ByteArray.mk a.toArray)++(ByteArray.mk b.toArray)=ByteArray.mk (a++b).toArray:=by
 apply ByteArray.ext;simp
theorem aCc(a:List UInt8):(ByteArray.mk a.toArray).size=a.length:=Aj
theorem aUh{op:BinOp}{x y:Dr}{p:PD}(h:YT op x y=some p)(c:Cx)(P:Program)(t:TypeId)(w:World) :
  ∃v,(binOp op t (.string ⟨x.toArray⟩) (.string ⟨y.toArray⟩)).run P w=.ok v w/\VR c v p:=by
 cases op<;>simp only[YT]at h<;>first
  |(simp at h;done)
  |(split at h
    .rename_i hl;simp at h;subst h;refine⟨_,?_,VR.str _⟩;have:¬((((ByteArray.mk x.toArray).size+(ByteArray.mk y.toArray).size:Nat):Int) > IntKind.i64.max):=by
      rw[aCc,aCc];simp only[maxLen]at hl;simp[IntKind.max,IntKind.signed,IntKind.bits];omega
     simp only[binOp,Op.stringOp,yAI this,yBb,aUi]
    .simp at h)
  |(simp at h;subst h;refine⟨_,?_,VR.bool _⟩;simp[binOp,Op.stringOp])
section eq
variable{P:Program}{c:Cx}
theorem aFr{eq:TypeId->PD->PD->Option Bool}{d:Nat}
  (ih:∀t x y b vx vy (w:World),eq t x y=some b->VR c vx x->VR c vy y->(Op.equalIn d t vx vy).run P w=.ok b w)
  {xs ys:Ds} {px py:Dq} (hx:aK c xs px) (hx1:∀v∈xs,v.oneCell'=true) (hy:aK c ys py) (hy1:∀v∈ys,v.oneCell'=true) (w:World) :
  ∀(fs:List Field) (b:Bool),MP eq P px py fs=some b->(Op.eqFields d xs.toArray ys.toArray fs).run P w=.ok b w
 | [],b,h=>by simp[MP]at h;subst h;rfl
 |f::fs,b,h=>by
  unfold MP at h;unfold Op.eqFields;split at h
  .rename_i hn;rw[yAI Br];exact aFr ih hx hx1 hy hy1 w fs b h
  .rename_i hn;rw[yAJ Br];split at h
   .rename_i a b' ha hb;obtain⟨va,ra,qa⟩:=U3 hx hx1 ha w;obtain⟨vb,rb,qb⟩:=U3 hy hy1 hb w;split at h
    .rename_i he;have:=ih _ _ _ _ va vb w he qa qb;simp only[yAW,ra,rb,this,yBa];simpa using aFr ih hx hx1 hy hy1 w fs b h
    .rename_i he;simp at h;subst h;have:=ih _ _ _ _ va vb w he qa qb;simp[ra,rb,this]
    .exact ah
   .exact ah
theorem aKT{e:TypeId}{eq:PD->PD->Option Bool}{d n:Nat}(hn:bI P e=some n)
  (ih:∀x y b vx vy (w:World),eq x y=some b->VR c vx x->VR c vy y->(Op.equalIn d e vx vy).run P w=.ok b w)
  {xs ys:Ds} {px py:Dq} (hx:aK c xs px) (hx1:∀v∈xs,v.oneCell'=true) (hy:aK c ys py) (hy1:∀v∈ys,v.oneCell'=true) (w:World) :
  ∀(m i:Nat) (b:Bool),ON eq P e n px py i m=some b ->
   (forIn (m:=Sem) (List.range' i m) (none,PUnit.unit) (fun(i:Nat) (_:Option Bool×PUnit)=>do
    if !(<-Op.equalIn d e (<-part e xs.toArray (i*n)) (<-part e ys.toArray (i*n)))then
     pure (ForInStep.done (some false,PUnit.unit))
    else do
     pure PUnit.unit
     pure (ForInStep.yield (none,PUnit.unit)))).run P w=.ok (if b then none else some false,PUnit.unit) w
 |0,i,b,h=>by simp[ON]at h;subst h;rfl
 |m+1,i,b,h=>by
  unfold ON at h;split at h
  .rename_i a b' ha hb;obtain⟨va,ra,qa⟩:=U3 hx hx1 ha w;obtain⟨vb,rb,qb⟩:=U3 hy hy1 hb w;split at h
   .rename_i he;have:=ih _ _ _ va vb w he qa qb;rw[yCL];have r:=aKT hn ih hx hx1 hy hy1 w m (i+1) b h;simp only[List.forIn_cons,yAW,ra,rb,this,yBa,yBH,yAx,yAO,yBb];exact r
   .rename_i he;simp at h;subst h;have:=ih _ _ _ va vb w he qa qb;rw[yCL];simp[ra,rb,this]
   .exact ah
  .exact ah
theorem aCd:∀(d k:Nat) (t:TypeId) (x y:PD) (b:Bool) (vx vy:Value) (w:World),mA P d t x y=some b->VR c vx x->VR c vy y ->
  (Op.equalIn (d+k) t vx vy).run P w=.ok b w
 |0,_,_,_,_,_,_,_,_,h,_,_=>by simp[mA]at h
 |d+1,k,t,x,y,b,vx,vy,w,h,hx,hy=>by
  rw[show d+1+k=(d+k)+1 by omega];unfold mA at h;split at h
  .rename_i hu;split at h<;>simp at h
   subst h;rw[hx.OY,hy.OY];exact run_equalIn_bool' w _ t _ _ hu
  .rename_i kk hu;split at h<;>simp at h
   obtain⟨rfl,rfl⟩:=h;rw[hx.pR,hy.pR];exact run_equalIn_int w _ t _ kk _ _ hu
  .rename_i hu;split at h<;>simp at h
   subst h;rw[hx.sZ,hy.sZ,run_equalIn_string w _ t _ _ hu,aKS,aKS]
  .rename_i e hu;split at h<;>simp at h<;>subst h
   .rw[hx.OJ,hy.OJ];simp[Op.equalIn,yAN hu]
   .obtain⟨b,e2,_⟩:=hy.qN;rw[hx.OJ,e2];simp[Op.equalIn,yAN hu]
   .obtain⟨ad,fl,e2,_⟩:=hy.U2;rw[hx.OJ,e2];simp[Op.equalIn,yAN hu]
   .obtain⟨b,e2,_⟩:=hx.qN;rw[hy.OJ,e2];simp[Op.equalIn,yAN hu]
   .obtain⟨ad,fl,e2,_⟩:=hx.U2;rw[hy.OJ,e2];simp[Op.equalIn,yAN hu]
  .rename_i hu;split at h<;>simp at h<;>subst h
   .rw[hx.aCe,hy.aCe];simp[Op.equalIn,yAN hu]
   .obtain⟨_,e2,_⟩:=hy.UK;rw[hx.aCe,e2];simp[Op.equalIn,yAN hu]
   .obtain⟨_,e2,_⟩:=hx.UK;rw[hy.aCe,e2];simp[Op.equalIn,yAN hu]
  .rename_i fs hu;split at h
   .rename_i px py;split at h
    .exact ah
    .rename_i hst;obtain⟨xs,rfl,hxs,hx1⟩:=hx.M7;obtain⟨ys,rfl,hys,hy1⟩:=hy.M7;have hfo:P.fieldsOf t=fs:=by simp[Program.fieldsOf,hu]
     rw[run_equalIn_struct w _ t _ _ (by rw[hfo];exact hu) (by simpa using hst),hfo];exact aFr (λt x y b vx vy w h hx hy=>aCd d k t x y b vx vy w h hx hy) hxs hx1 hys hy1 w fs.toList b h
   .exact ah
  .rename_i len e hu;split at h
   .rename_i px py;split at h
    .rename_i n hn;obtain⟨xs,rfl,hxs,hx1⟩:=hx.M7;obtain⟨ys,rfl,hys,hy1⟩:=hy.M7;have r:=aKT (P:=P) (d:=d+k) hn (λx y b vx vy w h hx hy=>aCd d k e x y b vx vy w h hx hy) hxs hx1 hys hy1 w len 0 b h;simp only[Op.equalIn,yAW,yAN hu,mF hn,yBa];rw[Std.Legacy.Range.forIn_eq_forIn_range'];simp only[Std.Legacy.Range.size];rw[show(len-0+1-1)/1=len by simp];refine Eq.trans (yAP (λz=>Result.andThen z _) r) ?_;cases b<;>rfl
    .exact ah
   .exact ah
  .exact ah
end eq
end
section
section
variable{P:Program}{c:Cx}
theorem aKL{d:Nat}{t:TypeId}{x y:PD}{b:Bool}(h:mA P d t x y=some b):(∀v,x≠.bG v)/\∀v,y≠.bG v:=by
 cases d with
 |zero=>cases h
 |succ d=>
  unfold mA at h
  constructor
  .rintro v rfl
   split at h<;>cases h
  .rintro v rfl
   split at h<;>(first|(cases h;done)|(split at h<;>first|(cases h;done)|(rename_i h' ;cases h';done)|contradiction))
theorem aKM{t:TypeId}{x y:PD}{b:Bool}(h:sW P t x y=some b):(∀v,x≠.bG v)/\∀v,y≠.bG v:=by
 unfold sW at h;split at h
 .exact⟨λv e=>zh,λv e=>zh⟩
 .exact aKL h
theorem aKN{t:TypeId}{x y:PD}{b:Bool}(h:sW P t x y=some b){vx vy:Value}(hx:VR c vx x)(hy:VR c vy y)(w:World)(op:BinOp)(ox oy:Operand) :
  (Op.equal t vx vy).run P w=.ok b w/\(eqGuard op t ox oy vx vy).run P w=.ok () w:=by
 unfold sW at h;split at h
 .rename_i px py;split at h
  .exact ah
  .rename_i hg;refine⟨aCd 12 9988 t _ _ b vx vy w h hx hy,?_⟩;obtain⟨xs,rfl,_⟩:=hx.M7;obtain⟨ys,rfl,_⟩:=hy.M7;exact run_eqGuard_agg w op t ox oy _ _ (by simpa using hg)
 .rename_i hne;refine⟨aCd 12 9988 t _ _ b vx vy w h hx hy,?_⟩;obtain⟨q1,q2⟩:=aKL h;cases hx<;>cases hy<;>first
   |exact(hne _ _ rfl rfl).elim
   |exact absurd rfl (q1 _)
   |exact absurd rfl (q2 _)
   |(cases op<;>rfl)
theorem aT4{op:BinOp}{t:TypeId}{x y p:PD}(h:eO P op t x y=some p){vx vy:Value}(hx:VR c vx x)(hy:VR c vy y)(w:World)(ox oy:Operand) :
  ∃v,(do eqGuard op t ox oy vx vy;binOp op t vx vy:Sem Value).run P w=.ok v w/\VR c v p:=by
 unfold eO at h;split at h
 .rename_i k a k' b;have e1:=hx.pR;have e2:=hy.pR;subst e1;subst e2;have hg:(eqGuard op t ox oy (.int k a) (.int k' b)).run P w=.ok () w:=by cases op<;>rfl
  split at h
  .obtain⟨v,r,q⟩:=aKO (k':=k') h (.inl rfl) c P t w;exact qg
  .obtain⟨v,r,q⟩:=aKO (k':=k') h (.inr rfl) c P t w;exact qg
  .rename_i n1 n2;split at h
   .rename_i hk;subst hk;obtain⟨v,r,q⟩:=aUg h ⟨by rintro rfl;exact n1 rfl,by rintro rfl;exact n2 rfl⟩ c P t w;exact qg
   .exact ah
 .rename_i a b;have e1:=hx.sZ;have e2:=hy.sZ;subst e1;subst e2;have hg:(eqGuard op t ox oy (.string ⟨a.toArray⟩) (.string ⟨b.toArray⟩)).run P w=.ok () w:=by cases op<;>rfl
  obtain⟨v,r,q⟩:=aUh h c P t w;exact qg
 .rename_i n1 n2;split at h
  .split at h
   .rename_i b hb;simp at h;subst h;obtain⟨r1,r2⟩:=aKN hb hx hy w .eql ox oy;refine⟨.bool b,?_,.bool b⟩;simp only[yAW,r2,yBa];have:(binOp .eql t vx vy)=(do pure (.bool (<-Op.equal t vx vy)):Sem Value):=by
     exact gI
    rw[this];simp[r1]
   .exact ah
  .split at h
   .rename_i b hb;simp at h;subst h;obtain⟨r1,r2⟩:=aKN hb hx hy w .neq ox oy;refine⟨.bool (!b),?_,.bool _⟩;simp only[yAW,r2,yBa];have:(binOp .neq t vx vy)=(do pure (.bool (!(<-Op.equal t vx vy))):Sem Value):=by
     exact gI
    rw[this];simp[r1]
   .exact ah
  .exact ah
theorem aKP{v:Value}{a:PD}{b:Bool}(hv:VR c v a)(h:GY a=some b):∃A n cap,v=.slice A n cap/\b=A.isNone:=by
 unfold GY at h;split at h
 .rename_i n xs tok;obtain⟨A,cap,fl,rfl,h1,h2,h3,h4,h5,h6,h7,h8⟩:=hv.oH;refine⟨A,xs.length,cap,rfl,?_⟩;split at h
  .rename_i hc;simp only[yAb]at h;subst h;have:0<fl.length:=by rw[h4];exact yDi (yCE hc.1) (yCE hc.2)
   obtain⟨ad,rfl,_⟩:=h6 0 fl[0] (by simp[this]);rfl
  .split at h
   .simp only[yAb]at h;subst h;obtain⟨e,_⟩:=h8;exact ri
   .simp only[yAb]at h;subst h;obtain⟨k,m,e⟩:=h8;exact ri
   .simp only[yAb]at h;subst h;obtain⟨a',k,m,e⟩:=h8;exact ri
   .cases h
 .obtain⟨b,cap,rfl,_⟩:=hv.M4;simp only[yAb]at h;subst h;exact⟨_,_,_,rfl,rfl⟩
 .obtain⟨b,cap,rfl,_⟩:=hv.O8;simp only[yAb]at h;subst h;exact⟨_,_,_,rfl,rfl⟩
 .cases h
theorem aKQ{t e:TypeId}(hu:P.underlying t=some (.slice e))(A:Option Addr)(n cap:Nat)(w:World):(Op.equal t (.slice A n cap) (.slice none 0 0)).run P w=.ok A.isNone w:=by
 show(Op.equalIn (9999+1) t (.slice A n cap) (.slice none 0 0)).run P w=_
 unfold Op.equalIn;cases A<;>simp[yAN hu]
theorem aT5{op:BinOp}{t:TypeId}{a p:PD}{y:Operand}(h:UA P op t a y=some p){ac:Act}{vx:Value}(hx:VR c vx a)(w:World)(ox:Operand) :
  ∃v,(do eqGuard op t ox y vx (ac.eval y);binOp op t vx (ac.eval y):Sem Value).run P w=.ok v w/\VR c v p:=by
 unfold UA at h;split at h
 .split at h
  .rename_i e hu;split at h
   .rename_i b hb;simp only[yAb]at h;subst h;obtain⟨A,n,cap,rfl,rfl⟩:=aKP hx hb;refine⟨.bool A.isNone,?_,.bool _⟩;have hg:(eqGuard .eql t ox (.const (.slice none 0 0)) (.slice A n cap) (.slice none 0 0)).run P w=.ok () w:=rfl;have hb:(binOp .eql t (.slice A n cap) (.slice none 0 0))=(do pure (.bool (<-Op.equal t (.slice A n cap) (.slice none 0 0))):Sem Value):=rfl;simp only[Act.eval,yAW,hg,hb,yBa,aKQ hu,yBb]
   .rename_i b hb;simp only[yAb]at h;subst h;obtain⟨A,n,cap,rfl,rfl⟩:=aKP hx hb;refine⟨.bool (!A.isNone),?_,.bool _⟩;have hg:(eqGuard .neq t ox (.const (.slice none 0 0)) (.slice A n cap) (.slice none 0 0)).run P w=.ok () w:=rfl;have hb:(binOp .neq t (.slice A n cap) (.slice none 0 0))=(do pure (.bool (!(<-Op.equal t (.slice A n cap) (.slice none 0 0)))):Sem Value):=rfl;simp only[Act.eval,yAW,hg,hb,yBa,aKQ hu,yBb]
   .cases h
  .cases h
 .split at h
  .rename_i mm hu;have r1:∀(tx:TypeId) (u:Value),(Op.equal t (.iface tx u) .nilIface).run P w=.ok false w:=λtx u=>by
    show(Op.equalIn (9999+1) t (.iface tx u) .nilIface).run P w=_
    unfold Op.equalIn;simp[yAN hu]
   have r2:(Op.equal t .nilIface .nilIface).run P w=.ok true w:=by
    show(Op.equalIn (9999+1) t .nilIface .nilIface).run P w=_
    unfold Op.equalIn;simp[yAN hu]
   split at h
   .rename_i tx q;simp only[yAb]at h;subst h;obtain⟨u,rfl,_⟩:=hx.aFo;have hg:(eqGuard .eql t ox (.const .nilIface) (.iface tx u) .nilIface).run P w=.ok () w:=rfl;have hb:(binOp .eql t (.iface tx u) .nilIface)=(do pure (.bool (<-Op.equal t (.iface tx u) .nilIface)):Sem Value):=rfl;refine⟨.bool false,?_,.bool _⟩;simp only[Act.eval,yAW,hg,hb,yBa,r1,yBb]
   .rename_i tx q;simp only[yAb]at h;subst h;obtain⟨u,rfl,_⟩:=hx.aFo;have hg:(eqGuard .neq t ox (.const .nilIface) (.iface tx u) .nilIface).run P w=.ok () w:=rfl;have hb:(binOp .neq t (.iface tx u) .nilIface)=(do pure (.bool (!(<-Op.equal t (.iface tx u) .nilIface))):Sem Value):=rfl;refine⟨.bool true,?_,.bool _⟩;simp only[Act.eval,yAW,hg,hb,yBa,r1,yBb,yBW]
   .simp only[yAb]at h;subst h;have hv:vx=.nilIface:=by cases hx;rfl
    subst hv;have hg:(eqGuard .eql t ox (.const .nilIface) .nilIface .nilIface).run P w=.ok () w:=by
     simp only[eqGuard];cases ox<;>rfl
    have hb:(binOp .eql t .nilIface .nilIface)=(do pure (.bool (<-Op.equal t .nilIface .nilIface)):Sem Value):=rfl;refine⟨.bool true,?_,.bool _⟩;simp only[Act.eval,yAW,hg,hb,yBa,r2,yBb]
   .simp only[yAb]at h;subst h;have hv:vx=.nilIface:=by cases hx;rfl
    subst hv;have hg:(eqGuard .neq t ox (.const .nilIface) .nilIface .nilIface).run P w=.ok () w:=by
     simp only[eqGuard];cases ox<;>rfl
    have hb:(binOp .neq t .nilIface .nilIface)=(do pure (.bool (!(<-Op.equal t .nilIface .nilIface))):Sem Value):=rfl;refine⟨.bool false,?_,.bool _⟩;simp only[Act.eval,yAW,hg,hb,yBa,r2,yBb,yBH]
   .cases h
  .cases h
 .cases h
theorem aT6{op:UnOp}{x p:PD}(h:T7 op x=some p){vx:Value}(hx:VR c vx x)(w:World):∃v,(Op.unary op vx).run P w=.ok v w/\VR c v p:=by
 unfold T7 at h;split at h
 .simp only[yAb]at h;subst h;rw[hx.pR];exact⟨_,rfl,.int _ _⟩
 .rw[hx.pR];split at h
  .rename_i z hz;simp at h;subst h;exact⟨_,aKR hz P w,.int _ _⟩
  .exact ah
 .simp at h;subst h;rw[hx.OY];exact⟨_,rfl,.bool _⟩
 .exact ah
theorem aT7{s d:TypeId}{x p:PD}(h:YQ P s d x=some p){vx:Value}(hx:VR c vx x)(w:World):∃v,(convert s d vx).run P w=.ok v w/\VR c v p:=by
 unfold YQ at h;split at h
 .rename_i hs hd;simp at h;subst h;rw[hx.pR];exact⟨_,by simp[convert,yAN hs,yAN hd,Conv.intToInt],.int _ _⟩
 .rename_i hs hd;simp at h;subst h;rw[hx.sZ];exact⟨_,by simp[convert,yAN hs,yAN hd],.str _⟩
 .exact ah
theorem Q9{x:PD}{i:Nat}(h:gN (some x)=some i){v:Value}(hx:VR c v x):∃k z,v=.int k z/\0<=z/\z.toNat=i:=by
 unfold gN at h;split at h
 .rename_i k z e;simp at e;subst e;split at h
  .simp at h;exact⟨k,z,hx.pR,‹_›,h⟩
  .exact ah
 .exact ah
theorem QR(a:Addr)(i j:Nat):(a.add i).add j=a.add (i+j):=by
 unfold Addr.add
 by_cases hi:i=0<;>by_cases hj:j=0<;>simp[hi,hj,yCr]
theorem aFq{s:TypeId}{fs:Array Field}{fd:Field}{f n:Nat}(hu:P.underlying s=some (.struct fs))(hf:fs[f]?=some fd)(hn:bI P fd.type=some n)(h0:n≠0)(a:Addr)(w:World) :
  (Instr.fieldAt s (.pointer (some a)) f).run P w=.ok (.pointer (some (a.add fd.offset))) w:=by
 simp[Instr.fieldAt,yAN hu,hf,Instr.sureAddr,fieldPlace,mF hn,h0]
theorem aT9{s:TypeId}{x p:PD}{f:Nat}(h:OO P s x f=some p){vx:Value}(hx:VR c vx x)(w:World):∃v,(Instr.fieldAt s vx f).run P w=.ok v w/\VR c v p:=by
 unfold OO at h;split at h
 .rename_i fs hu;split at h
  .rename_i fd hf;split at h
   .rename_i n hn;split at h
    .exact ah
    .rename_i h0;split at h
     .rename_i id off;simp at h;subst h;obtain⟨b,rfl,h1,h2,h3⟩:=hx.qN;refine⟨_,aFq hu hf hn h0 _ w,?_⟩;have:(⟨b,off,none⟩:Addr).add fd.offset=⟨b,off+fd.offset,none⟩:=ze;rw[this];exact .ptr _ _ b h1 h2 h3
     .rename_i cs off;simp at h;subst h;obtain⟨ad,fl,rfl,h1,h2,h3⟩:=hx.U2;refine⟨_,aFq hu hf hn h0 _ w,?_⟩;rw[QR];exact .cI ad fl cs _ h1.1 h2 h3 h1.2
     .rename_i id ver off;simp at h;subst h;obtain⟨b,rfl,h1⟩:=hx.UR;refine⟨_,aFq hu hf hn h0 _ w,?_⟩;have:(⟨b,off,none⟩:Addr).add fd.offset=⟨b,off+fd.offset,none⟩:=ze;rw[this];exact .fD _ _ _ b h1
     .exact ah
   .exact ah
  .exact ah
 .exact ah
theorem aUa{t:TypeId}{x p:PD}{f:Nat}(h:T8 P t x f=some p){vx:Value}(hx:VR c vx x)(w:World):∃v,(Instr.field t vx f).run P w=.ok v w/\VR c v p:=by
 unfold T8 at h;split at h
 .rename_i fs ds hu;split at h
  .rename_i fd hf;obtain⟨cs,rfl,h1,h2⟩:=hx.M7;obtain⟨v,r,q⟩:=U3 h1 h2 h w;exact⟨v,by simp[Instr.field,yAN hu,hf,asAgg,r],q⟩
  .exact ah
 .exact ah
theorem aFg(size:Nat):∀(xs:List PD),(∀x∈xs,x.cells.length=size)->∀(i:Nat) (p:PD),xs[i]?=some p->∀j,j<size->(xs.flatMap PD.cells)[i*size+j]?=p.cells[j]?
 | [],_,i,p,h,_,_=>Aa
 |x::xs,hx,0,p,h,j,hj=>by
  simp at h;subst h;have:=hx x yo;simp[yBg,yCR,this,hj]
 |x::xs,hx,i+1,p,h,j,hj=>by
  have hl:=hx x yo;have r:=aFg size xs (λy hy=>hx y Cl) i p zw j hj;rw[yBg,yCo (by rw[hl,yBs];omega),hl];rw[show(i+1)*size+j-size=i*size+j by rw[yBs];omega];exact r
theorem aUb{t:TypeId}{x i p:PD}(h:MS P t x i=some p){vx vi:Value}(hx:VR c vx x)(hi:VR c vi i)(w:World):∃v,(Instr.indexAt t vx vi).run P w=.ok v w/\VR c v p:=by
 unfold MS at h;split at h
 .rename_i m len e hm hu;obtain⟨k,z,rfl,h0,rfl⟩:=Q9 hm hi;split at h
  .rename_i n hn;split at h
   .rename_i hlt;split at h
    .rename_i id off;simp at h;subst h;obtain⟨b,rfl,h1,h2,h3⟩:=hx.qN;refine⟨.pointer (some ⟨b,off+z.toNat*n,none⟩),?_,.ptr _ _ b h1 h2 h3⟩;exact fj
    .rename_i cs off;simp at h;subst h;obtain⟨ad,fl,rfl,h1,h2,h3⟩:=hx.U2;have hz:z<(len:Int):=ym;refine⟨.pointer (some (ad.add (off+z.toNat*n))),?_,.cI ad fl cs _ h1.1 h2 h3 h1.2⟩;simp[Instr.indexAt,asIntOf,yAN hu,Instr.sureAddr,h0,hz,mF hn,QR]
    .rename_i id ver off;simp at h;subst h;obtain⟨b,rfl,h1⟩:=hx.UR;refine⟨.pointer (some ⟨b,off+z.toNat*n,none⟩),?_,.fD _ _ _ b h1⟩;exact fj
    .exact ah
   .exact ah
  .exact ah
 .rename_i m e hm hu;obtain⟨k,z,rfl,h0,rfl⟩:=Q9 hm hi;split at h
  .rename_i size xs tok n hn;split at h
   .rename_i hsz;obtain⟨hsz,hn0⟩:=hsz;split at h
    .rename_i q hq;simp at h;subst h;have hsz:n=size:=hsz.resolve_left (λe=>by rw[yAf e]at hq;simp at hq);subst hsz;obtain⟨A,cap,fl,rfl,h1,h2,h3,h4,h5,h6,h7,h8⟩:=hx.oH;have hlt:z.toNat<xs.length:=(yA.1 hq).1;have hz:z<(xs.length:Int):=ym;have hql:=h3 q (yAE hq);have hin:z.toNat*n<fl.length:=by
      rw[h4];exact Nat.mul_lt_mul_of_pos_right hlt hn0
     obtain⟨ad,rfl,_,_⟩:=h6 (z.toNat*n) fl[z.toNat*n] (by simp[hin]);refine⟨.pointer (some ((ad.add (z.toNat*n)).add 0)),?_,?_⟩
     .simp[Instr.indexAt,asIntOf,yAN hu,h0,hz,mF hn,Addr.add]
     .have hle:z.toNat*n+n<=fl.length:=by
       rw[h4,<-yCJ];exact yBU _ hlt
      refine .cI (ad.add (z.toNat*n)) ((fl.drop (z.toNat*n)).take n) q.cells 0 (by simp[hql];omega) (λv hv=>h5 v (yBJ (yAy hv))) ?_ ?_
      .intro j v hv;rw[yAv]at hv;split at hv
       .rw[yBy]at hv;obtain⟨ZC,e',h9,h10⟩:=h6 _ v hv;cases e';rw[QR];exact⟨h9,h10⟩
       .simp at hv
      .intro j v d hv hd;rw[yAv]at hv;split at hv
       .rename_i hj;rw[yBy]at hv;exact h7 _ v d hv (by rw[aFg n xs h3 _ _ hq j hj];exact hd)
       .simp at hv
    .exact ah
   .exact ah
  .rename_i id off m' size n hn;split at h
   .rename_i hc;obtain⟨rfl,hlt⟩:=hc;simp at h;subst h;obtain⟨b,cap,rfl,h1,h2,h3,_,_⟩:=hx.M4;refine⟨.pointer (some ⟨b,off+z.toNat*n,none⟩),?_,.ptr _ _ b h1 h2 h3⟩;exact gl
   .exact ah
  .rename_i id ver off m' size n hn;split at h
   .rename_i hc;obtain⟨rfl,hlt⟩:=hc;simp at h;subst h;obtain⟨b,cap,rfl,h1,_,_⟩:=hx.O8;refine⟨.pointer (some ⟨b,off+z.toNat*n,none⟩),?_,.fD _ _ _ b ⟨h1.1,λe sz v' cs hs=>⟨(h1.2 e sz v' cs hs).1,λhv=>by
     obtain⟨_,C,hr,_⟩:=(h1.2 e sz v' cs hs).2 hv;exact⟨C,hr⟩⟩⟩⟩
    exact gl
   .exact ah
  .exact ah
 .exact ah
end
end
section
theorem aKs(s:List UInt8)(l h:Nat):(ByteArray.mk s.toArray).extract l h=⟨((s.drop l).take (h-l)).toArray⟩:=by
 apply ByteArray.ext;simp[ByteArray.data_extract,List.extract_toArray,List.extract_eq_take_drop]
theorem RA{size:Nat}:∀(xs:List PD),(∀x∈xs,x.cells.length=size)->(xs.flatMap PD.cells).length=xs.length*size
 | [],_=>yo
 |x::xs,h=>by
  rw[yBg,yAa,h x yo,RA xs (λy hy=>h y Cl),yAK,yBs];omega
theorem aKI{size:Nat}:∀(xs:List PD) (l:Nat),(∀x∈xs,x.cells.length=size)->(xs.drop l).flatMap PD.cells=(xs.flatMap PD.cells).drop (l*size)
 |xs,0,_=>yo
 | [],l+1,_=>yo
 |x::xs,l+1,h=>by
  have hx:=h x yo;have e1:x.cells.drop ((l+1)*size)=[]:=yAs (by rw[hx,yBs];omega);have e2:(l+1)*size-size=l*size:=by rw[yBs];omega
  rw[List.drop_succ_cons,aKI xs l (λy hy=>h y Cl),yBg,List.drop_append,hx,e1,e2,yAQ]
theorem aFd{size:Nat}:∀(xs:List PD) (k:Nat),(∀x∈xs,x.cells.length=size)->(xs.take k).flatMap PD.cells=(xs.flatMap PD.cells).take (k*size)
 |xs,0,_=>yo
 | [],k+1,_=>yo
 |x::xs,k+1,h=>by
  have hx:=h x yo;have e1:x.cells.take ((k+1)*size)=x.cells:=yAz (by rw[hx,yBs];omega);have e2:(k+1)*size-size=k*size:=by rw[yBs];omega
  rw[yDa,yBg,aFd xs k (λy hy=>h y Cl),yBg,List.take_append,hx,e1,e2]
section
variable{P:Program}{c:Cx}
theorem aUc{t:TypeId}{x i p:PD}(h:MT P t x i=some p){vx vi:Value}(hx:VR c vx x)(hi:VR c vi i)(w:World):∃v,(Instr.index t vx vi).run P w=.ok v w/\VR c v p:=by
 unfold MT at h;split at h
 .rename_i m len e ds hm hu;obtain⟨k,z,rfl,h0,rfl⟩:=Q9 hm hi;split at h
  .rename_i n hn;split at h
   .rename_i hlt;obtain⟨cs,rfl,h1,h2⟩:=hx.M7;obtain⟨v,r,q⟩:=U3 h1 h2 h w;have hz:z<(len:Int):=ym;exact⟨v,by simp[Instr.index,asIntOf,yAN hu,h0,hz,mF hn,r],q⟩
   .exact ah
  .exact ah
 .rename_i m s hm hu;obtain⟨k,z,rfl,h0,rfl⟩:=Q9 hm hi;split at h
  .rename_i b hb;simp only[yAb]at h;subst h;rw[hx.sZ];refine⟨.int .u8 b.toNat,?_,.int _ _⟩;have hlt:z.toNat<s.length:=(yA.1 hb).1;have:(ByteArray.mk s.toArray)[z.toNat]?=some b:=by
    rw[getElem?_pos _ _ (by simpa [ByteArray.size]using hlt)];have hg:s[z.toNat]=b:=(yA.1 hb).2;simp only[ByteArray.getElem_eq_getElem_data,yAb];simpa using hg
   simp[Instr.index,asIntOf,yAN hu,h0,this]
  .exact ah
 .exact ah
theorem U4{a:Act}{fr:Dq}(hf:FR c a fr){x:Operand}{m:Nat}(h:gN (aT fr x)=some m):∃k z,a.eval x=.int k z/\0<=z/\z.toNat=m:=by
 cases he:aT fr x with
 |none=>simp[he,gN]at h
 |some p=>
  rw[he]at h;exact Q9 h (cY hf he)
theorem ZM{a:Act}{fr:Dq}(hf:FR c a fr){n cap l h:Nat}{lo hi:Option Operand}(hb:mS n (lo.map (aT fr)) (hi.map (aT fr))=some (l,h))(hc:n<=cap)(isS:Bool)(w:World) :
  l<=h/\h<=n/\(Instr.sliceBounds isS n cap (lo.map a.eval) (hi.map a.eval) none).run P w=.ok (l,h,cap) w:=by
 unfold mS at hb;split at hb
 .rename_i h' l' h1 h2;split at hb
  .rename_i hle;simp only[yAb,yAc]at hb;obtain⟨rfl,rfl⟩:=hb;refine⟨hle.1,hle.2,?_⟩;cases hi with
   |none=>
    simp at h1;subst h1;cases lo with
    |none=>simp at h2;subst h2;simp[Instr.sliceBounds]
    |some lo=>
     obtain⟨k,z,e,h0,rfl⟩:=U4 hf Bv;have hz:z<=(n:Int):=ym;simp[Instr.sliceBounds,e,yCl (P:=P) (w:=w) k z _ _ h0 hz]
   |some hi=>
    obtain⟨k',z',e',h0',rfl⟩:=U4 hf zo;have RH:z'<=(cap:Int):=ym;cases lo with
    |none=>simp at h2;subst h2;simp[Instr.sliceBounds,e',yCl (P:=P) (w:=w) k' z' _ _ h0' RH]
    |some lo=>
     obtain⟨k,z,e,h0,rfl⟩:=U4 hf Bv;have hz:z<=(z'.toNat:Int):=ym;simp[Instr.sliceBounds,e,e',yCl (P:=P) (w:=w) k' z' _ _ h0' RH,yCl (P:=P) (w:=w) k z _ _ h0 hz]
  .simp at hb
 .simp at hb
theorem aKJ{a:Act}{fr:Dq}(hf:FR c a fr){n cap l h m:Nat}{lo:Option Operand}{hi mx:Operand}(hb:mS n (lo.map (aT fr)) ((some hi).map (aT fr))=some (l,h))(hm:gN (aT fr mx)=some m)
  (h1:h<=m) (h2:m<=n) (hc:n<=cap) (isS:Bool) (w:World) :
  l<=h/\h<=n/\(Instr.sliceBounds isS n cap (lo.map a.eval) (some (a.eval hi)) (some (a.eval mx))).run P w=.ok (l,h,m) w:=by
 obtain⟨km,zm,em,hm0,rfl⟩:=U4 hf hm;unfold mS at hb;split at hb
 .rename_i h' l' h3 h4;split at hb
  .rename_i hle;simp only[yAb,yAc]at hb;obtain⟨rfl,rfl⟩:=hb;refine⟨hle.1,hle.2,?_⟩;obtain⟨k',z',e',h0',rfl⟩:=U4 hf Ax;have hzm:zm<=(cap:Int):=ym;have RH:z'<=(zm.toNat:Int):=ym;cases lo with
   |none=>simp at h4;subst h4;simp[Instr.sliceBounds,e',em,yCl (P:=P) (w:=w) km zm _ _ hm0 hzm,yCl (P:=P) (w:=w) k' z' _ _ h0' RH]
   |some lo=>
    obtain⟨k,z,e,h0,rfl⟩:=U4 hf (by simpa using h4);have fU:z<=(z'.toNat:Int):=ym;simp[Instr.sliceBounds,e,e',em,yCl (P:=P) (w:=w) km zm _ _ hm0 hzm,yCl (P:=P) (w:=w) k' z' _ _ h0' RH,yCl (P:=P) (w:=w) k z _ _ h0 fU]
  .simp at hb
 .simp at hb
theorem aKK{A:Option Addr}{cap size n l h m:Nat}{xs:Dq}{fl:Ds}{tok:Tok}(hn:xs.length=0\/n=size)(hlh:l<=h)(hhx:h<=xs.length)(hhm:h<=m)(hmc:m<=cap)(hcm:cap<=maxLen)
  (h3:∀x∈xs,x.cells.length=size) (h4:fl.length=xs.length*size) (h5:∀v∈fl,v.oneCell'=true)
  (h6:∀(j:Nat) (v:Value),fl[j]?=some v->∃ad,A=some ad/\c.w.cell? (ad.add j)=some v/\c.av (ad.add j))
  (h7:∀(j:Nat) (v:Value) (d:PD),fl[j]?=some v->(xs.flatMap PD.cells)[j]?=some d->VR c v d)
  (ht:qW c size (h-l) (m-l) (.slice (if m=l then A else A.map (·.add (l*n))) (h-l) (m-l)) tok) :
  VR c (.slice (if m=l then A else A.map (·.add (l*n))) (h-l) (m-l)) (.slice size ((xs.drop l).take (h-l)) tok):=by
 have hxs:∀x∈(xs.drop l).take (h-l),x.cells.length=size:=λx hx=>h3 x (yBJ (yAy hx))
 have hlen:((xs.drop l).take (h-l)).length=h-l:=zc;have hdl:∀x∈xs.drop l,x.cells.length=size:=λx hx=>h3 x (yBJ hx)
 have hfl:((fl.drop (l*size)).take ((h-l)*size)).length=(h-l)*size:=by
  have:l*size+(h-l)*size<=fl.length:=by
   rw[h4,<-yBs];exact yBU _ ym
  simp;omega
 refine .slice _ _ _ size _ tok ((fl.drop (l*size)).take ((h-l)*size)) hlen.symm ym ym hxs hfl
  (λv hv=>h5 v (yBJ (yAy hv))) ?_ ?_ ht
 .intro j v hv;have hj:j<(h-l)*size:=by rw[<-hfl];exact(yA.1 hv).1
  rw[yAv,yAJ hj,yBy]at hv;obtain⟨ad,rfl,h9,h10⟩:=h6 _ v hv;have hpos:0<h-l:=by
   rcases yDS (h-l)with e|e
   .rw[e]at hj;simp at hj
   .exact e
  have hne:¬m=l:=ym;have hns:n=size:=hn.resolve_left ym;subst hns;rw[yAI hne];exact⟨_,rfl,by rw[QR];exact h9,by rw[QR];exact h10⟩
 .intro j v d hv hd;have hj:j<(h-l)*size:=by rw[<-hfl];exact(yA.1 hv).1
  rw[yAv,yAJ hj,yBy]at hv;rw[aFd _ _ hdl,aKI _ _ h3,yAv,yAJ hj,yBy]at hd;exact h7 _ v d hv hd
theorem aT8{a:Act}{fr:Dq}(hf:FR c a fr){t:TypeId}{x p:PD}{lo hi mx:Option Operand}
  (h:GZ P t x (lo.map (aT fr)) (hi.map (aT fr)) (mx.map (aT fr))=some p) {vx:Value} (hx:VR c vx x) (w:World) :
  ∃v,(Instr.sliceAt t vx (lo.map a.eval) (hi.map a.eval) (mx.map a.eval)).run P w=.ok v w/\VR c v p:=by
 unfold GZ at h;split at h
 .rename_i s hu;split at h
  .exact ah
  .rename_i hmx;have M8:mx=none:=Ba;subst M8;split at h
   .rename_i l hh hb;simp only[yAb]at h;subst h;rw[hx.sZ];have hz:(ByteArray.mk s.toArray).size=s.length:=aCc s;obtain⟨h1,h2,h3⟩:=ZM (P:=P) hf hb (yAk _) false w;refine⟨.string ⟨((s.drop l).take (hh-l)).toArray⟩,?_,.str _⟩;simp[Instr.sliceAt,Instr.slice,yAN hu,hz,h3,aKs]
   .exact ah
 .rename_i e size xs tok hu;split at h
  .rename_i n l hh hn hb;split at h
   .rename_i hsz;obtain⟨A,cap,fl,rfl,h1,h2,h3,h4,h5,h6,h7,h8⟩:=hx.oH;split at h
    ·
     rename_i hmx;have M8:mx=none:=Ba;subst M8;simp only[yAb]at h;subst h;obtain⟨b1,b2,b3⟩:=ZM (P:=P) hf hb h1 true w;refine⟨_,?_,aKK (n:=n) (m:=cap) hsz b1 b2 ym (yAk _) h2 h3 h4 h5 h6 h7 ?_⟩
     .exact qc
     .by_cases hhe:hh=xs.length
      .rw[yAJ hhe];cases tok with
       |any=>trivial
       |full=>simp only[qW]at h8 ⊢;omega
       |nil=>trivial
       |vJ=>trivial
       |vK=>trivial
       |own id=>
        by_cases hl0:l=0
        .subst hl0;simp only[↓reduceIte];have:(if cap=0 then A else A.map (·.add (0*n)))=A:=by
          split
          .rfl
          .cases A<;>simp[Addr.add]
         rw[this,hhe];simpa using h8
        .simp only[hl0,yAO];trivial
      .rw[yAI hhe];trivial
    .rename_i m hmx;split at h
     .rename_i hi0 m' hhi hm;split at h
      .rename_i hle;simp only[yAb]at h;subst h;cases mx with
       |none=>simp at hmx
       |some mx=>
        cases hi with
        |none=>simp at hhi
        |some hi=>
         simp at hmx;subst hmx;obtain⟨b1,b2,b3⟩:=aKJ (P:=P) hf hb hm hle.1 hle.2 h1 true w;refine⟨_,?_,aKK (n:=n) (m:=m') hsz b1 b2 hle.1 ym h2 h3 h4 h5 h6 h7 ?_⟩
         .exact qc
         .by_cases hme:m'=hh
          .rw[yAJ hme];simp only[qW];omega
          .rw[yAI hme];trivial
      .exact ah
     .exact ah
   .exact ah
  .exact ah
 .rename_i e id off m size hu;split at h
  .rename_i n l hh hn hb hmx;split at h
   .rename_i hc;obtain⟨rfl,hl⟩:=hc;simp only[yAb]at h;subst h;obtain⟨b,cap,rfl,hd,hp,hr,h1,h2⟩:=hx.M4;have M8:mx=none:=Ba;subst M8;obtain⟨b1,b2,b3⟩:=ZM (P:=P) hf hb h1 true w;refine⟨.slice (some ⟨b,off+l*n,none⟩) (hh-l) (cap-l),?_,.cL _ _ _ _ _ b hd hp hr ym ym⟩;exact cr
   .exact ah
  .exact ah
 .rename_i e id ver off m size hu;split at h
  .rename_i n l hh hn hb;split at h
   .rename_i hc;subst hc;obtain⟨b,cap,rfl,hp,h1,h2⟩:=hx.O8;split at h
    .rename_i hmx;have M8:mx=none:=Ba;subst M8;obtain⟨b1,b2,b3⟩:=ZM (P:=P) hf hb h1 true w;split at h
     .rename_i hl;simp only[yAb]at h;subst h;refine⟨.slice (some ⟨b,off+l*n,none⟩) (hh-l) (cap-l),?_,.eB _ _ _ _ _ _ b ⟨hp.1,λe sz v' cs hs=>⟨(hp.2 e sz v' cs hs).1,λhv=>?_⟩⟩ ym ym⟩
      .exact cr
      .obtain⟨q1,C,q2,q3⟩:=(hp.2 e sz v' cs hs).2 hv;refine⟨q1,C,q2,?_⟩;rw[<-q3,Nat.sub_mul,yCr]
       congr 1
       have:l*n<=cap*n:=yBU _ ym;omega
     .rename_i hl;simp only[yAb]at h;subst h;have hlh:hh-l=0:=ym;refine⟨.slice (if cap=l then(some ⟨b,off,none⟩:Option Addr)else(some ⟨b,off,none⟩:Option Addr).map (·.add (l*n))) (hh-l) (cap-l),?_,?_⟩
      .simp only[Instr.sliceAt,Instr.slice,yAW,yAN hu,yBa,yDt,b3,mF hn,yBb]
      .rw[hlh];exact .slice _ 0 _ n [] .any [] rfl (yAF _) ym yo yo yo yo yo trivial
    .rename_i mv hmx;split at h
     .rename_i hi0 k hhi hk;split at h
      .rename_i hc;obtain⟨rfl,rfl⟩:=hc;simp only[yAb]at h;subst h;cases mx with
       |none=>simp at hmx
       |some mx=>
        cases hi with
        |none=>simp at hhi
        |some hi=>
         simp at hmx;subst hmx;have hlm:l<=m:=by
          unfold mS at hb;split at hb
          .split at hb
           .simp only[yAb,yAc]at hb;omega
           .cases hb
          .cases hb
         obtain⟨b1,b2,b3⟩:=aKJ (P:=P) hf hb hk (yAk _) hlm h1 true w;refine⟨.slice (some ⟨b,off,none⟩) (l-l) (l-l),?_,?_⟩
         .exact qc
         .rw[Nat.sub_self];exact .slice _ 0 0 n [] .full [] rfl (yAF _) (yAF _) yo yo yo yo yo rfl
      .exact ah
     .exact ah
   .exact ah
  .exact ah
 .rename_i len e id off hu;split at h
  .rename_i n l hh hn hb hmx;split at h
   .rename_i hc;obtain⟨hlen,hl⟩:=hc;simp only[yAb]at h;subst h;obtain⟨b,rfl,hd,hp,hr⟩:=hx.qN;have M8:mx=none:=Ba;subst M8;obtain⟨b1,b2,b3⟩:=ZM (P:=P) hf hb (yAk _) false w;have hml:len<=maxLen:=yBe hlen (by unfold maxLen;decide);refine⟨.slice (some ⟨b,off+l*n,none⟩) (hh-l) (len-l),?_,.cL _ _ _ _ _ b hd hp hr ym ym⟩;have:(if len=l then(⟨b,off,none⟩:Addr)else(⟨b,off,none⟩:Addr).add (l*n))=⟨b,off+l*n,none⟩:=by
     split
     .have:l=0:=by omega
      subst this;simp
     .simp[Addr.add]
    simp[Instr.sliceAt,Instr.sureAddr,yAN hu,b3,mF hn,this]
   .exact ah
  .exact ah
 .exact ah
end
end
section
section
variable{P:Program}{c:Cx}
theorem aKG(off:Nat):∀(l:List Value) (k:Nat) (cells:Array Value),off+k+l.length<=cells.size ->
  ((l.zipIdx k).foldl (fun(cs:Array Value) (x:Value×Nat)=>cs.setIfInBounds (off+x.2) x.1) cells).toList=cells.toList.take (off+k)++l++cells.toList.drop (off+k+l.length)
 | [],k,cells,_=>yo
 |v::l,k,cells,h=>by
  simp only[yAK]at h;rw[List.zipIdx_cons,yDc,aKG off l (k+1) _ zc];simp only[yDO,yAK];have e1:(cells.toList.set (off+k) v).take (off+(k+1))=cells.toList.take (off+k)++[v]:=by
   have hlt:off+k<cells.toList.length:=zc;rw[show off+(k+1)=(off+k)+1 by omega,yBX (by simpa using hlt)]
   congr 1
   .rw[List.take_set];rw[List.set_eq_of_length_le zc]
   .simp
  have e2:(cells.toList.set (off+k) v).drop (off+(k+1)+l.length)=cells.toList.drop (off+k+(l.length+1)):=by
   rw[List.drop_set_of_lt ym]
   congr 1
   omega
  rw[e1,e2];simp
theorem aFn{cells:Ds}{z:Dq}(hz:aK c cells z){v:Value}{p:PD}(hv:VR c v p)(off:Nat)(hle:off+p.cells.length<=z.length) :
  aK c (cells.take off++v.cells.toList++cells.drop (off+v.cells.toList.length)) (jG z off p.cells):=by
 have hc:=hv.cells;have hl:v.cells.toList.length=p.cells.length:=hc.1;have h0:cells.length=z.length:=hz.1;refine⟨by simp[jG,hl,h0],λi u d hu hd=>?_⟩;unfold jG at hd;rw[yAi]at hu hd;rw[yCR]at hu hd;simp only[yAt]at hu hd
 by_cases h1:i<min off cells.length
 .rw[yAJ h1]at hu;rw[yAJ ym]at hd;rw[yAv,yAJ ym]at hu hd;exact hz.2 i u d hu hd
 .rw[yAI h1]at hu;rw[yAI ym]at hd;rw[yCR]at hu hd;have hm:min off cells.length=off:=ym;have hm':min off z.length=off:=ym;rw[hm]at hu;rw[hm']at hd
  by_cases h2:i-off<p.cells.length
  .rw[yAJ ym]at hu;rw[yAJ h2]at hd;exact hc.2 _ u d hu hd
  .rw[yAI ym]at hu;rw[yAI h2]at hd;rw[yBy]at hu hd;rw[hl]at hu;exact hz.2 _ u d hu hd
theorem ZD{cells:Ds}(h:∀v∈cells,v.oneCell'=true){new:Ds}(hn:∀v∈new,v.oneCell'=true)(off n:Nat):∀v∈cells.take off++new++cells.drop n,v.oneCell'=true:=by
 intro v hv;simp only[yBv]at hv;rcases hv with(h1|h1)|h1
 .exact h v (yAy h1)
 .exact hn v h1
 .exact h v (yBJ h1)
theorem aB8{place:Nat->Option (Nat×Nat)}:∀(parts:List (Nat×PD)) (vparts:List (Nat×Value)) (z:List PD) (cells:Array Value) (cs:List PD),
  vparts.length=parts.length->(∀(i:Nat) (jv:Nat×Value) (jp:Nat×PD),vparts[i]?=some jv->parts[i]?=some jp->jv.1=jp.1/\VR c jv.2 jp.2) ->
  aK c cells.toList z->(∀v∈cells.toList,v.oneCell'=true)->KA place z parts=some cs ->
  ∃cells',Instr.fill place cells vparts=some cells'/\aK c cells'.toList cs/\∀v∈cells'.toList,v.oneCell'=true
 | [],[],z,cells,cs,_,_,hz,h1,h=>by simp[KA]at h;subst h;exact⟨cells,rfl,hz,h1⟩
 | [],_::_,_,_,_,hl,_,_,_,_=>by simp at hl
 |_::_,[],_,_,_,hl,_,_,_,_=>by simp at hl
 |(i,p)::parts,(i',v)::vparts,z,cells,cs,hl,hp,hz,h1,h=>by
  obtain⟨e,hv⟩:=hp 0 (i',v) (i,p) rfl rfl;simp only at e hv;subst e;unfold KA at h;unfold Instr.fill;cases hpl:place i' with
  |none=>simp[hpl]at h
  |some on=>
   obtain⟨off,n⟩:=on;simp only[hpl]at h ⊢;have hcl:v.cells.size=p.cells.length:=by have:=hv.cells.1;simpa using this
   have hzl:cells.size=z.length:=by have:=hz.1;simpa using this
   split at h
   .exact ah
   .rename_i hn;have OM:¬p.cells.length≠n:=λq=>hn (.inl q)
    have hn2:¬off+p.cells.length > z.length:=λq=>hn (.inr (.inl q))
    have hn3:p.cells.all PD.plain=true:=by
     cases hq:p.cells.all PD.plain with
     |true=>rfl
     |false=>exact(hn (.inr (.inr hq))).elim
    have lQ:=aK.G3 hv.cells hn3;have hcond:¬(decide (v.cells.size≠n)||decide (off+v.cells.size > cells.size))=true:=by
     rw[hcl,hzl];simp only[yBi,yBC]
     rintro(q|q)
     .exact OM q
     .exact hn2 q
    rw[yAI hcond];have hle:off+p.cells.length<=z.length:=ym;have hfold:(v.cells.zipIdx.foldl (λcs (c,j)=>cs.setIfInBounds (off+j) c) cells).toList=cells.toList.take off++v.cells.toList++cells.toList.drop (off+v.cells.toList.length):=by
     rw[<-Array.foldl_toList,Array.toList_zipIdx];have:=aKG off v.cells.toList 0 cells zc;exact bp
    refine aB8 parts vparts _ _ cs Al (λi jv jp a b=>hp (i+1) jv jp Bx Bz) ?_ ?_ h
    .rw[hfold];exact aFn hz hv off hle
    .rw[hfold];exact ZD h1 lQ off _
theorem O2{t:TypeId}{p:PD}(h:dT P t=some p):∃v i,P.info? t=some i/\i.zero=some v/\VR c v p:=by
 unfold dT at h;split at h
 .rename_i i hi;split at h
  .rename_i z hz;exact⟨z,i,hi,hz,aFm h⟩
  .exact ah
 .exact ah
theorem aKH:∀ {fs:List Field} {pl:List (Nat×Nat)},UD P fs=some pl->fs.mapM (λf=>(P.info? f.type).map λi=>(f.offset,i.size))=some pl
 | [],pl,h=>by simp[UD]at h;subst h;rfl
 |f::fs,pl,h=>by
  unfold UD at h;split at h
  .rename_i n ps hn hp;simp only[yAb]at h;subst h;obtain⟨i,hi,hs⟩:=aB7 hn;simp[List.mapM_cons,aKH hp,hi,hs]
  .exact ah
theorem aUe{t:TypeId}{parts:List (Nat×PD)}{vparts:List (Nat×Value)}{p:PD}(h:T9 P t parts=some p)(hl:vparts.length=parts.length)
  (hp:∀(i:Nat) (jv:Nat×Value) (jp:Nat×PD),vparts[i]?=some jv->parts[i]?=some jp->jv.1=jp.1/\VR c jv.2 jp.2) (w:World) :
  ∃v,(Instr.build t vparts.toArray).run P w=.ok v w/\VR c v p:=by
 unfold T9 at h;split at h
 .rename_i z hz;obtain⟨zv,i,hi,hzv,hzr⟩:=O2 (c:=c) hz;obtain⟨cs,rfl,hcs,qY⟩:=hzr.M7;split at h
  .rename_i fs hu;split at h
   .rename_i pl hpl;split at h
    .rename_i out ho;simp only[yAb]at h;subst h;obtain⟨cells',h1,h2,h3⟩:=aB8 parts vparts z cs.toArray out hl hp (by simpa using hcs) (by simpa using qY) ho;refine⟨.agg cells',run_build w t _ cells' ?_,?_⟩
     .simp only[Program.built,hi,hu,hzv,aKH hpl,Value.cells];simpa using h1
     .exact xb
    .exact ah
   .exact ah
  .rename_i k e hu;split at h
   .rename_i n hn;split at h
    .rename_i out ho;simp only[yAb]at h;subst h;obtain⟨cells',h1,h2,h3⟩:=aB8 parts vparts z cs.toArray out hl hp (by simpa using hcs) (by simpa using qY) ho;obtain⟨ie,hie,hsz⟩:=aB7 hn;subst hsz;refine⟨.agg cells',run_build w t _ cells' ?_,?_⟩
     .simp only[Program.built,hi,hu,hzv,hie,Value.cells];simpa using h1
     .exact xb
    .exact ah
   .exact ah
  .exact ah
 .exact ah
theorem aB2{a:Act}{fr:Dq}(hf:FR c a fr):∀ {parts:List (Nat×Operand)} {ps:List (Nat×PD)},sU fr parts=some ps ->
  (parts.map λq=>(q.1,a.eval q.2)).length=ps.length/\∀(i:Nat) (jv:Nat×Value) (jp:Nat×PD),(parts.map λq=>(q.1,a.eval q.2))[i]?=some jv->ps[i]?=some jp->jv.1=jp.1/\VR c jv.2 jp.2
 | [],ps,h=>by simp[sU]at h;subst h;simp
 |(j,x)::parts,ps,h=>by
  unfold sU at h;split at h
  .rename_i p qs h1 h2;simp only[yAb]at h;subst h;obtain⟨a1,a2⟩:=aB2 hf h2;refine⟨by simpa using a1,λi jv jp hv hp=>?_⟩;cases i with
   |zero=>simp at hv hp;subst hv;subst hp;exact⟨rfl,cY hf h1⟩
   |succ i=>exact a2 i jv jp (by simpa using hv) (by simpa using hp)
  .exact ah
theorem aFp(lt:Bool)(w:World):∀(vs:List Value) (x:PD) (r:List PD) (p:PD) (vx:Value),QZ lt x r=some p->VR c vx x->aK c vs r ->
  ∃v,((vs.foldlM (if lt then Builtin.min2 else Builtin.max2) vx).run P w=.ok v w)/\VR c v p
 | [],x,[],p,vx,h,hx,_=>by
   unfold QZ at h;split at h
   .simp only[yAb]at h;subst h;exact⟨vx,yo,hx⟩
   .rename_i e;simp at e
   .exact ah
 | [],_,_::_,_,_,_,_,hl=>by have:=hl.1;simp at this
 |_::_,_,[],_,_,_,_,hl=>by have:=hl.1;simp at this
 |v::vs,x,y::r,p,vx,h,hx,hl=>by
  unfold QZ at h;split at h
  .rename_i e;simp at e
  .rename_i k z k' z' r' e;simp at e;obtain⟨e1,e2⟩:=e;subst e1;subst e2;have hv:=hl.2 0 v _ rfl rfl;have h0:=hx.pR;have h1:=hv.pR;subst h0;subst h1;have htl:aK c vs r:=⟨by have:=hl.1;simpa using this,λi u d a b=>hl.2 (i+1) u d Bx Bz⟩;obtain⟨v,q1,q2⟩:=aFp lt w vs _ r p _ h (VR.int _ _) htl;refine⟨v,?_,q2⟩;cases lt<;>simpa [List.foldlM_cons,Builtin.min2,Builtin.max2]using q1
  .exact ah
theorem aUf{b:Builtin}{ts:Array TypeId}{args:Dq}{vargs:Ds}{p:PD}(h:MU P b ts args=some p)(ha:aK c vargs args)(ty:TypeId)(cs:Array Bool)(w:World) :
  ∃v,(builtin b ts ty cs vargs.toArray).run P w=.ok (.value v) w/\VR c v p:=by
 unfold MU at h;split at h
 .split at h
  .rename_i t ht;split at h
   .rename_i s r hu;simp only[yAb]at h;subst h;obtain⟨v,hv,hr⟩:=ha.get (i:=0) (d:=.str s) rfl;rw[hr.sZ]at hv;refine⟨.int .i64 s.length,?_,.int _ _⟩;simp[builtin,Builtin.len_,ht,hv,yAN hu,goInt,aCc]
   .rename_i n e p0 r hu;simp only[yAb]at h;subst h;obtain⟨v,hv,hr⟩:=ha.get (i:=0) (d:=p0) rfl;exact ig
   .rename_i e sz xs tok r hu;simp only[yAb]at h;subst h;obtain⟨v,hv,hr⟩:=ha.get (i:=0) (d:=.slice sz xs tok) rfl;obtain⟨A,cap,fl,rfl,_⟩:=hr.oH;refine⟨.int .i64 xs.length,?_,.int _ _⟩;simp[builtin,Builtin.len_,ht,hv,yAN hu,goInt]
   .rename_i e id off n size r hu;simp only[yAb]at h;subst h;obtain⟨v,hv,hr⟩:=ha.get (i:=0) (d:=.cL id off n size) rfl;obtain⟨b,cap,rfl,_⟩:=hr.M4;exact ig
   .rename_i e id ver off n size r hu;simp only[yAb]at h;subst h;obtain⟨v,hv,hr⟩:=ha.get (i:=0) (d:=.eB id ver off n size) rfl;obtain⟨b,cap,rfl,_⟩:=hr.O8;exact ig
   .exact ah
  .exact ah
 .split at h
  .rename_i x r;cases vargs with
   |nil=>have:=ha.1;simp at this
   |cons v vs=>
    have htl:aK c vs r:=⟨by have:=ha.1;simpa using this,λi u d a b=>ha.2 (i+1) u d Bx Bz⟩;obtain⟨v',q1,q2⟩:=aFp (P:=P) true w vs x r p v h (ha.2 0 v x rfl rfl) htl;exact⟨v',by simp at q1;simp[builtin,Builtin.min_,q1],q2⟩
  .exact ah
 .split at h
  .rename_i x r;cases vargs with
   |nil=>have:=ha.1;simp at this
   |cons v vs=>
    have htl:aK c vs r:=⟨by have:=ha.1;simpa using this,λi u d a b=>ha.2 (i+1) u d Bx Bz⟩;obtain⟨v',q1,q2⟩:=aFp (P:=P) false w vs x r p v h (ha.2 0 v x rfl rfl) htl;exact⟨v',by simp at q1;simp[builtin,Builtin.max_,q1],q2⟩
  .exact ah
 .split at h
  .rename_i t ht;split at h
   .rename_i e sz xs r hu;simp only[yAb]at h;subst h;obtain⟨v,hv,hr⟩:=ha.get (i:=0) (d:=.slice sz xs .full) rfl;obtain⟨A,cap,fl,rfl,a1,a2,a3,a4,a5,a6,a7,a8⟩:=hr.oH;have hc:xs.length=cap:=by simp only[qW]at a8;omega
    refine⟨.int .i64 xs.length,?_,.int _ _⟩;simp[builtin,Builtin.cap_,ht,hv,yAN hu,goInt,hc]
   .exact ah
  .exact ah
 .exact ah
end
end
section
section
variable{P:Program}{c:Cx}
theorem aK.append{c:Cx}{a b:Ds}{x y:Dq}(h:aK c a x)(k:aK c b y):aK c (a++b) (x++y):=by
 refine⟨by simp[h.1,k.1],λi v d hv hd=>?_⟩;rw[yCR]at hv hd
 by_cases h1:i<a.length
 .rw[yAJ h1]at hv;rw[yAJ (by rw[<-h.1];exact h1)]at hd;exact h.2 i v d hv hd
 .rw[yAI h1]at hv;rw[yAI (by rw[<-h.1];exact h1)]at hd;rw[<-h.1]at hd;exact k.2 _ v d hv hd
theorem aTD{a:Act}{fr:Dq}(hf:FR c a fr){o:Oper}{p:PD}(h:dB P fr o.op=some p)(w:World) :
  ∃v,(execOp a.eval o).run P w=.ok (.value v) w/\VR c v p:=by
 obtain⟨dst,op,ty,pos,after,guard⟩:=o;simp only at h;unfold dB at h;split at h
 .exact⟨_,by simp[execOp],cY hf h⟩
 .exact⟨_,by simp[execOp],cY hf h⟩
 .rename_i x y z;split at h
  .exact qt
  .exact qt
  .exact ah
 .rename_i bop t x y yt;split at h
  .rename_i pa pb h1 h2;have hc:∃v,(do eqGuard bop t x y (a.eval x) (a.eval y);binOp bop t (a.eval x) (a.eval y):Sem Value).run P w=.ok v w/\VR c v p:=by
    split at h
    .rename_i r hr;simp only[yAb]at h;subst h;exact aT4 hr (cY hf h1) (cY hf h2) w x y
    .exact aT5 h (cY hf h1) w x
   obtain⟨v,r,q⟩:=hc;refine⟨v,?_,q⟩;have e:execOp a.eval ⟨dst,.binOp bop t x y yt,ty,pos,after,guard⟩=((do eqGuard bop t x y (a.eval x) (a.eval y);binOp bop t (a.eval x) (a.eval y):Sem Value) >>= λz=>pure (.value z)):=rfl;rw[e,yAW,r];rfl
  .exact ah
 .rename_i uop t x;split at h
  .rename_i pa h1;obtain⟨v,r,q⟩:=aT6 (P:=P) h (cY hf h1) w;exact fq
  .exact ah
 .rename_i s d x;split at h
  .exact ah
  .split at h
   .rename_i pa h1;obtain⟨v,r,q⟩:=aT7 h (cY hf h1) w;exact fq
   .exact ah
 .rename_i f first captured;split at h
  .rename_i h0;split at h
   .rename_i ps hps;simp only[yAb]at h;subst h;have hv:=pL hf hps;have e:first=#[]:=yDW h0;subst e;refine⟨.func (.func f) #[] (captured.toList.map a.eval).toArray,?_,.func f _ ps hv.1 hv.2⟩;have e2:captured.map a.eval=(captured.toList.map a.eval).toArray:=Ag;simp[execOp,Instr.makeFunc,e2]
   .exact ah
  .split at h
   .rename_i h0;split at h
    .rename_i ps hps;simp only[yAb]at h;subst h;have hv:=pL hf hps;have e:captured=#[]:=yDW h0;subst e;refine⟨.func (.func f) (first.toList.map a.eval).toArray #[],?_,.jS f _ ps hv.1 hv.2⟩;have e2:first.map a.eval=(first.toList.map a.eval).toArray:=Ag;simp[execOp,Instr.makeFunc,e2]
    .exact ah
   .exact ah
 .rename_i t x lo hi mx;split at h
  .rename_i pa h1;obtain⟨v,r,q⟩:=aT8 hf h (cY hf h1) w;exact fq
  .exact ah
 .rename_i s x f;split at h
  .rename_i pa h1;obtain⟨v,r,q⟩:=aT9 h (cY hf h1) w;exact fq
  .exact ah
 .rename_i t x f;split at h
  .rename_i pa h1;obtain⟨v,r,q⟩:=aUa h (cY hf h1) w;exact fq
  .exact ah
 .rename_i t x i;split at h
  .rename_i pa pb h1 h2;obtain⟨v,r,q⟩:=aUb h (cY hf h1) (cY hf h2) w;exact fq
  .exact ah
 .rename_i t x i;split at h
  .rename_i pa pb h1 h2;obtain⟨v,r,q⟩:=aUc h (cY hf h1) (cY hf h2) w;exact fq
  .exact ah
 .rename_i x i;split at h
  .rename_i vs h1;obtain⟨cs,e,hcs⟩:=(cY hf h1).aUd;obtain⟨v,hv,q⟩:=hcs.get h;exact⟨v,by simp[execOp,e,Instr.extract,hv],q⟩
  .exact ah
 .rename_i x;split at h
  .rename_i id off h1;simp only[yAb]at h;subst h;have hv:=cY hf h1;obtain⟨b,e,_⟩:=hv.qN;exact rj
  .rename_i cs off h1;simp only[yAb]at h;subst h;have hv:=cY hf h1;obtain⟨ad,fl,e,_⟩:=hv.U2;exact⟨.pointer (some (ad.add off)),by simp[execOp,e],by rw[<-e];exact hv⟩
  .rename_i id ver off h1;simp only[yAb]at h;subst h;have hv:=cY hf h1;obtain⟨b,e,_⟩:=hv.UR;exact rj
  .exact ah
 .rename_i t parts;split at h
  .rename_i ps h1;obtain⟨a1,a2⟩:=aB2 hf h1;obtain⟨v,r,q⟩:=aUe h a1 a2 w;refine⟨v,?_,q⟩;have e:(parts.map fun(x:Nat×Operand)=>(x.1,a.eval x.2))=(parts.toList.map λq=>(q.1,a.eval q.2)).toArray:=Ag;simp only[execOp,yAW];rw[show(Array.map (λx=>match x with|(i,x)=>(i,a.eval x)) parts)=(parts.toList.map λq=>(q.1,a.eval q.2)).toArray from by simpa using e,r];simp
  .exact ah
 .rename_i b args ts;split at h
  .rename_i ps h1;have hv:=pL hf h1;obtain⟨v,r,q⟩:=aUf h hv ty (args.map λ|.const _=>true|_=>false) w;refine⟨v,?_,q⟩;simp only[execOp,resolve,invoke,yAW,yBb,yBa];rw[show args.map a.eval=(args.toList.map a.eval).toArray from by apply yBR;simp];exact r
  .exact ah
 .rename_i x xt t;split at h
  .rename_i fs hu;split at h
   .rename_i u q h1;split at h
    .rename_i e;subst e;simp only[yAb]at h;subst h;obtain⟨v,e2,hv⟩:=(cY hf h1).aFo;refine⟨.tuple #[v,.bool true],?_,.aI [v,.bool true] _ rfl (λi a b h2 h3=>?_)⟩
     .simp[execOp,Instr.typeAssert,yAN hu,e2]
     .match i,h2,h3 with
      |0,h2,h3=>simp at h2 h3;subst h2 h3;exact hv
      |1,h2,h3=>simp at h2 h3;subst h2 h3;exact .bool true
    .exact ah
   .exact ah
  .exact ah
 .rename_i t x;split at h
  .rename_i fs hu;split at h
   .rename_i q h1;simp only[yAb]at h;subst h;refine⟨.iface t (a.eval x),?_,.iface t _ _ (cY hf h1)⟩;simp[execOp,Instr.makeInterface,yAN hu]
   .exact ah
  .exact ah
 .exact ah
end
end
section
open Go.RowKit
section
variable{c:Cx}{fl:Nat}
theorem fX{w:World}{b:Nat}{o:Obj}(h:w.heap[b]?=some o):b<w.heap.size:=(yDr.1 h).1
theorem M5{w:World}{a:Addr}{v:Value}(h:w.cell? a=some v):a.block<w.heap.size:=World.block_lt_of_cell? w a h
def Cx.at(c:Cx)(w:World):Cx:={ c with w:=w }
theorem Nx.grow{w':World}(_hs:Sr c)(h:c.w.grownBy w' none):Nx fl c (c.at w') where
 X:=rfl
 os:=h.os
 tape:=h.tape
 output:=h.output
 size:=h.size
 len:=yAk _
 cell:=λa v ha hv=>⟨ha,by
  show w'.cell? a=some v
  rw[yCp (h.block a.block (M5 hv) yo)];exact hv⟩
 aZ:=λ_ h=>h
 new:=λ_ h=>.inl h
 vI:=λ_ p _ h=>⟨rfl,p,h⟩
 mU:=λ_ _ h=>⟨rfl,h⟩
 xZ:=λ_ _ _ n _ h=>⟨n,h,yAk _,λ_=>rfl⟩
 x5:=λ_ _ _ v cs _ h=>⟨v,cs,h,yAk _,λ_=>rfl⟩
 back:=λ_ _ h h' _=>⟨h,h'⟩
 frame:=λk hk _=>h.block k hk yo
 ro:=λ_ _ _=>rfl
 hole:=λ_ _ _=>rfl
theorem O6{w w':World}{e:TypeId}{size n:Nat}{v:Value}{xs:Ds}(h:w.ownsRowF 0 e size v n xs)(hb:∀g,aW v=some g->w'.heap[g]?=w.heap[g]?):w'.ownsRowF 0 e size v n xs:=by
 refine⟨h.1,?_⟩;rcases h.2 with hn | ⟨g,cap,cur,fz,rfl,hb0,hg,rest⟩
 .exact .inl hn
 .exact .inr ⟨g,cap,cur,fz,rfl,hb0,by rw[hb g rfl];exact hg,rest⟩
theorem Sr.grow{w':World}(hs:Sr c)(h:c.w.grownBy w' none):Sr (c.at w') where
 box:=λid p hd hp=>by
  obtain⟨b,cs,T,e1,e2,e3,e4⟩:=hs.box id p hd hp;exact⟨b,cs,T,e1,by show w'.heap[b]?=_;rw[h.block b (fX e2) yo];exact e2,e3.mono (Nx.grow (fl:=0) hs h),e4⟩
 own:=λid e size n hd ho=>by
  obtain⟨xs,hx⟩:=hs.own id e size n hd ho;exact ud
 mark:=λid hd hm=>by
  obtain⟨b,e1,e2⟩:=hs.mark id hd hm;exact⟨b,e1,by show w'.heap[b]?=_;rw[h.block b (fX e2) yo];exact e2⟩
 row:=λid e sz ver ds hd ho=>by
  obtain⟨b,C,cur,e1,e2,e3,e4,e5,e6,e7,e8⟩:=hs.row id e sz ver ds hd ho;exact⟨b,C,cur,e1,by show w'.heap[b]?=_;rw[h.block b (fX e2) yo];exact e2,e3,e4,e5,e6,e7.mono (Nx.grow (fl:=0) hs h),e8⟩
 map:=λid es hd ho=>by
  obtain⟨b,ents,clock,e1,e2,e3,e4⟩:=hs.map id es hd ho;exact⟨b,ents,clock,e1,by show w'.heap[b]?=_;rw[h.block b (fX e2) yo];exact e2,e3.mono (Nx.grow (fl:=0) hs h),e4.mono (Nx.grow (fl:=0) hs h)⟩
 loop:=λid st fr ps asg bd hd hl=>by
  obtain⟨b,r,e1,e2,e3,e4,e5,e6,e7⟩:=hs.loop id st fr ps asg bd hd hl;exact⟨b,r,e1,by show w'.heap[b]?=_;rw[h.block b (fX e2) yo];exact e2,e3,e4,e5,e6.mono (Nx.grow (fl:=0) hs h),e7⟩
 inj:=hs.inj
 lt:=λid b hd hb=>yBO (hs.lt id b hd hb) h.size
 aZ:=hs.aZ
 fresh:=λa ha=>hs.fresh a (yBe h.size ha)
 iG:=hs.iG.mono (Nx.grow (fl:=0) hs h)
theorem aBH(w:World):w.grownBy w.drew none:=⟨rfl,rfl,rfl,yAk _,λ_ _ _=>rfl⟩
def Cx.push(c:Cx)(w:World)(v:Value)(o:U):Cx:=
 { w:=w,ρ:=λi=>if i=c.σ.length then v else c.ρ i,σ:=c.σ++[o],D:=λi=>c.D i\/i=c.σ.length,X:=c.X }
theorem aT2{id:Nat}(hs:Sr c)(hd:c.D id):id≠c.σ.length:=Nat.ne_of_lt (hs.aZ id hd)
theorem o6{w:World}{v:Value}{o:U}{id:Nat}(hs:Sr c)(hd:c.D id):(c.push w v o).ρ id=c.ρ id:=by simp[Cx.push,aT2 hs hd]
theorem EX{w:World}{v:Value}{o:U}{id:Nat}(hs:Sr c)(hd:c.D id):(c.push w v o).σ[id]?=c.σ[id]?:=by
 simp[Cx.push,yAg (hs.aZ id hd)]
theorem fS{w:World}{v:Value}{o:U}:(c.push w v o).σ[c.σ.length]?=some o/\(c.push w v o).ρ c.σ.length=v/\(c.push w v o).D c.σ.length:=by simp[Cx.push]
theorem Nx.push{w':World}{v:Value}{o:U}(hs:Sr c)(h:c.w.grownBy w' none)(hv:∀b,aW v=some b->c.w.heap.size<=b):Nx fl c (c.push w' v o) where
 X:=rfl
 os:=h.os
 tape:=h.tape
 output:=h.output
 size:=h.size
 len:=by simp[Cx.push]
 cell:=λa u ha hu=>by
  have hlt:=M5 hu;refine⟨⟨ha.1,λid o' hd ho=>?_⟩,by show w'.cell? a=some u;rw[yCp (h.block a.block hlt yo)];exact hu⟩;rcases hd with hd|rfl
  .rw[EX hs hd]at ho;rw[o6 hs hd];exact ha.2 id o' hd ho
  .obtain⟨e1,e2,_⟩:=fS (c:=c) (w:=w') (v:=v) (o:=o);rw[e1]at ho;rw[e2];simp only[yAb]at ho;subst ho;cases o with
   |none=>trivial
   |box p=>intro b hb e;have:=hv b hb;omega
   |own e size n=>intro b hb e;have:=hv b hb;omega
   |row e size ver ds=>intro b hb e;have:=hv b hb;omega
   |map es=>trivial
   |mark=>trivial
   |loop st fr ps asg bd=>trivial
 aZ:=λ_ h=>.inl h
 new:=λid hd=>by rcases hd with hd|rfl;exact .inl hd;exact .inr (yAk _)
 vI:=λid p hd hp=>⟨o6 hs hd,p,by rw[EX hs hd];exact hp⟩
 mU:=λid hd hn=>⟨o6 hs hd,by rw[EX hs hd];exact hn⟩
 xZ:=λid e s n hd ho=>⟨n,by rw[EX hs hd];exact ho,yAk _,λ_=>o6 hs hd⟩
 x5:=λid e s v' cs hd ho=>⟨v',cs,by rw[EX hs hd]at ho;exact ho,yAk _,λ_=>o6 hs hd⟩
 back:=λid b hd hb hlt=>by
  rcases hd with hd|rfl
  .rw[o6 hs hd]at hb;exact⟨hd,hb⟩
  .rw[(fS (c:=c) (w:=w') (v:=v) (o:=o)).2.1]at hb;have:=hv b hb;omega
 frame:=λk hk _=>h.block k hk yo
 ro:=λid _ hl=>by simp[Cx.push,yAg hl]
 hole:=λid hl _=>by simp[Cx.push,yAg hl]
theorem Sr.push{w':World}{v:Value}{o:U}(hs:Sr c)(h:c.w.grownBy w' none)(hv:∀b,aW v=some b->c.w.heap.size<=b/\b<w'.heap.size)
  (ho:match o with
   |.none=>True
   |.box p=>∃b cs T,v=.pointer (some ⟨b,0,none⟩)/\w'.heap[b]?=some (.cells cs T (0,0))/\aK c cs.toList p.cells/\(∀v∈cs.toList,v.oneCell'=true)/\∀t ds,p=.typed t ds->T=t
   |.own e size n=>∃xs,w'.ownsRowF 0 e size v n xs
   |.row e size _ ds=>∃b C cur,v=.slice (some ⟨b,0,none⟩) 0 C/\w'.heap[b]?=some (.cells cur e (0,0))/\cur.size=C*size/\C<=maxLen/\0<size /\
     ds.length<=cur.size/\aK c (cur.toList.take ds.length) ds/\∀v∈cur.toList,v.oneCell'=true
   |.map es=>∃b ents clock,v=.map (some b)/\w'.heap[b]?=some (.map ents clock)/\aK c (ents.toList.map MapEntry.key) (es.map Prod.fst)/\aK c (ents.toList.map MapEntry.val) (es.map Prod.snd)
   |.mark=>∃b,v=.pointer (some ⟨b,0,none⟩)/\w'.heap[b]?=some (.deferred (some []))
   |.loop st fr ps assign body=>∃b r,v=.pointer (some ⟨b,0,none⟩)/\w'.heap[b]?=some (.loop r)/\r.params=ps.toArray/\r.assign=assign/\r.body=body/\aK c r.tmps.toList fr/\st.fits r):Sr (c.push w' v o):=by
 have nx:Nx 0 c (c.push w' v o):=Nx.push hs h (λb hb=>(hv b hb).1);refine⟨?_,?_,?_,?_,?_,?_,?_,?_,?_,?_,hs.iG.mono nx⟩
 .intro id p hd hp;rcases hd with hd|rfl
  .rw[EX hs hd]at hp;obtain⟨b,cs,T,e1,e2,e3,e4⟩:=hs.box id p hd hp;exact⟨b,cs,T,(o6 hs hd).trans e1,by show w'.heap[b]?=_;rw[h.block b (fX e2) yo];exact e2,e3.mono nx,e4⟩
  .rw[fS.1]at hp;simp only[yAb]at hp;subst hp;obtain⟨b,cs,T,e1,e2,e3,e4⟩:=ho;exact⟨b,cs,T,fS.2.1.trans e1,e2,e3.mono nx,e4⟩
 .intro id e size n hd hp;rcases hd with hd|rfl
  .rw[EX hs hd]at hp;obtain⟨xs,hx⟩:=hs.own id e size n hd hp;rw[o6 hs hd];exact ud
  .rw[fS.1]at hp;simp only[yAb]at hp;subst hp;rw[fS.2.1];exact ho
 .intro id e size ver ds hd hp;rcases hd with hd|rfl
  .rw[EX hs hd]at hp;obtain⟨b,C,cur,e1,e2,e3,e4,e5,e6,e7,e8⟩:=hs.row id e size ver ds hd hp;exact⟨b,C,cur,(o6 hs hd).trans e1,by show w'.heap[b]?=_;rw[h.block b (fX e2) yo];exact e2,e3,e4,e5,e6,e7.mono nx,e8⟩
  .rw[fS.1]at hp;simp only[yAb]at hp;subst hp;obtain⟨b,C,cur,e1,e2,e3,e4,e5,e6,e7,e8⟩:=ho;exact⟨b,C,cur,fS.2.1.trans e1,e2,e3,e4,e5,e6,e7.mono nx,e8⟩
 .intro id es hd hp;rcases hd with hd|rfl
  .rw[EX hs hd]at hp;obtain⟨b,ents,clock,e1,e2,e3,e4⟩:=hs.map id es hd hp;exact⟨b,ents,clock,(o6 hs hd).trans e1,by show w'.heap[b]?=_;rw[h.block b (fX e2) yo];exact e2,e3.mono nx,e4.mono nx⟩
  .rw[fS.1]at hp;simp only[yAb]at hp;subst hp;obtain⟨b,ents,clock,e1,e2,e3,e4⟩:=ho;exact⟨b,ents,clock,fS.2.1.trans e1,e2,e3.mono nx,e4.mono nx⟩
 .intro id hd hm;rcases hd with hd|rfl
  .rw[EX hs hd]at hm;obtain⟨b,e1,e2⟩:=hs.mark id hd hm;exact⟨b,(o6 hs hd).trans e1,by show w'.heap[b]?=_;rw[h.block b (fX e2) yo];exact e2⟩
  .rw[fS.1]at hm;simp only[yAb]at hm;subst hm;obtain⟨b,e1,e2⟩:=ho;exact⟨b,fS.2.1.trans e1,e2⟩
 .intro id st fr ps asg bd hd hm;rcases hd with hd|rfl
  .rw[EX hs hd]at hm;obtain⟨b,r,e1,e2,e3,e4,e5,e6,e7⟩:=hs.loop id st fr ps asg bd hd hm;exact⟨b,r,(o6 hs hd).trans e1,by show w'.heap[b]?=_;rw[h.block b (fX e2) yo];exact e2,e3,e4,e5,e6.mono nx,e7⟩
  .rw[fS.1]at hm;simp only[yAb]at hm;subst hm;obtain⟨b,r,e1,e2,e3,e4,e5,e6,e7⟩:=ho;exact⟨b,r,fS.2.1.trans e1,e2,e3,e4,e5,e6.mono nx,e7⟩
 .intro id id' b hd hd' hne hb hb';rcases hd with hd|rfl
  .rw[o6 hs hd]at hb;rcases hd' with hd' | rfl
   .rw[o6 hs hd']at hb';exact hs.inj id id' b hd hd' hne hb hb'
   .rw[fS.2.1]at hb';have:=(hv b hb').1;have:=hs.lt id b hd hb;omega
  .rw[fS.2.1]at hb;rcases hd' with hd' | rfl
   .rw[o6 hs hd']at hb';have:=(hv b hb).1;have:=hs.lt id' b hd' hb';omega
   .exact hne rfl
 .intro id b hd hb;rcases hd with hd|rfl
  .rw[o6 hs hd]at hb;exact yBO (hs.lt id b hd hb) h.size
  .rw[fS.2.1]at hb;exact(hv b hb).2
 .intro id hd;rcases hd with hd|rfl
  .have:=hs.aZ id hd;simp[Cx.push];omega
  .simp[Cx.push]
 .exact λa ha=>hs.fresh a (yBe h.size ha)
def Cx.put(c:Cx)(w:World)(id:Nat)(v:Value)(o:U):Cx:=
 { c with w:=w,ρ:=λi=>if i=id then v else c.ρ i,σ:=c.σ.set id o }
theorem dG{w:World}{v:Value}{o:U}{id i:Nat}(h:i≠id):(c.put w id v o).σ[i]?=c.σ[i]?:=by simp[Cx.put,yAd (yBd h)]
theorem fM{w:World}{v:Value}{o:U}{id i:Nat}(h:i≠id):(c.put w id v o).ρ i=c.ρ i:=by simp[Cx.put,h]
theorem eZ{w:World}{v:Value}{o:U}{id:Nat}(h:id<c.σ.length):(c.put w id v o).σ[id]?=some o:=by simp[Cx.put,h]
theorem nW{w:World}{v:Value}{o:U}{id:Nat}:(c.put w id v o).ρ id=v:=Bs
theorem Nx.J4{w':World}{id b:Nat}{q q':PD}(hs:Sr c)(hd:c.D id)(hq:c.σ[id]?=some (.box q))(hr:c.ρ id=.pointer (some ⟨b,0,none⟩))(hfl:fl<=id)
  (h0:w'.os=c.w.os/\w'.tape=c.w.tape/\w'.output=c.w.output/\w'.heap.size=c.w.heap.size) (h1:∀k,k≠b->w'.heap[k]?=c.w.heap[k]?) :
  Nx fl c (c.put w' id (c.ρ id) (.box q')):=by
 have hρ:∀i,(c.put w' id (c.ρ id) (.box q')).ρ i=c.ρ i:=λi=>by
  exact jj
 have hb:aW (c.ρ id)=some b:=Ak;refine⟨rfl,h0.1,h0.2.1,h0.2.2.1,yCS h0.2.2.2.symm,Bs,?_,λ_ h=>h,λ_ h=>.inl h,?_,?_,?_,?_,?_,?_,?_,λi _ hi=>dG (λe=>hi Cu)⟩
 .intro a u ha hu;have hne:a.block≠b:=ha.2 id _ hd hq b hb;refine⟨⟨ha.1,λi o hi ho=>?_⟩,by show w'.cell? a=some u;rw[yCp (h1 a.block hne)];exact hu⟩;rw[hρ]
  by_cases e:i=id
  .subst e;rw[eZ (hs.aZ i hd)]at ho;simp only[yAb]at ho;subst ho;exact λb' hb'=>ha.2 i _ hd hq b' hb'
  .rw[dG e]at ho;exact ha.2 i o hi ho
 .intro i p hi hp;refine⟨hρ i,?_⟩
  by_cases e:i=id
  .subst e;exact⟨q',eZ (hs.aZ i hd)⟩
  .exact⟨p,by rw[dG e];exact hp⟩
 .intro i hi hn;refine⟨hρ i,?_⟩
  by_cases e:i=id
  .subst e;rw[eZ (hs.aZ i hd)];trivial
  .rw[dG e];exact hn
 .intro i e' s n hi ho;have e:i≠id:=by rintro rfl;rw[hq]at ho;cases ho
  exact⟨n,by rw[dG e];exact ho,yAk _,λ_=>hρ i⟩
 .intro i e' s v cs hi ho;have e:i≠id:=zj;exact⟨v,cs,by rw[dG e]at ho;exact ho,yAk _,λ_=>hρ i⟩
 .intro i b' hi hb' _;rw[hρ]at hb';exact⟨hi,hb'⟩
 .intro k _ hk;exact h1 k (λe=>hk id hd hfl (by rw[e];exact hb))
 .exact og
theorem Sr.J4{w':World}{id b:Nat}{q q':PD}{cs:Dt}{T:TypeId}(hs:Sr c)(hd:c.D id)(hq:c.σ[id]?=some (.box q))(hr:c.ρ id=.pointer (some ⟨b,0,none⟩))
  (h0:w'.os=c.w.os/\w'.tape=c.w.tape/\w'.output=c.w.output/\w'.heap.size=c.w.heap.size) (h1:∀k,k≠b->w'.heap[k]?=c.w.heap[k]?)
  (h2:w'.heap[b]?=some (.cells cs T (0,0))) (h3:aK c cs.toList q'.cells) (h4:(∀v∈cs.toList,v.oneCell'=true)/\∀t ds,q'=.typed t ds->T=t):Sr (c.put w' id (c.ρ id) (.box q')):=by
 have nx:Nx 0 c (c.put w' id (c.ρ id) (.box q')):=Nx.J4 hs hd hq hr (yAF _) h0 h1;have hρ:∀i,(c.put w' id (c.ρ id) (.box q')).ρ i=c.ρ i:=λi=>by
  exact jj
 have hb:aW (c.ρ id)=some b:=Ak;refine⟨?_,?_,?_,?_,?_,?_,?_,?_,?_,?_,hs.iG.mono nx⟩
 .intro i p hi hp
  by_cases e:i=id
  .subst e;rw[eZ (hs.aZ i hd)]at hp;simp only[yAb,U.box.injEq]at hp;subst hp;exact⟨b,cs,T,(hρ i).trans hr,h2,h3.mono nx,h4⟩
  .rw[dG e]at hp;obtain⟨b',cs',T',e1,e2,e3,e4⟩:=hs.box i p hi hp;refine⟨b',cs',T',(hρ i).trans e1,?_,e3.mono nx,e4⟩;exact bt
 .intro i e' s n hi ho;have e:i≠id:=zj;rw[dG e]at ho;obtain⟨xs,hx⟩:=hs.own i e' s n hi ho;rw[hρ];exact⟨xs,O6 hx (λg hg=>h1 g (λe''=>hs.inj i id g hi hd e hg (by rw[e''];exact hb)))⟩
 .intro i e' size ver ds hi ho;have e:i≠id:=zj;rw[dG e]at ho;obtain⟨b',C,cur,e1,e2,e3,e4,e5,e6,e7,e8⟩:=hs.row i e' size ver ds hi ho;refine⟨b',C,cur,(hρ i).trans e1,?_,e3,e4,e5,e6,e7.mono nx,e8⟩;exact bt
 .intro i es hi ho;have e:i≠id:=zj;rw[dG e]at ho;obtain⟨b',ents,clock,e1,e2,e3,e4⟩:=hs.map i es hi ho;refine⟨b',ents,clock,(hρ i).trans e1,?_,e3.mono nx,e4.mono nx⟩;exact bt
 .intro i hi hm;have e:i≠id:=Dh;rw[dG e]at hm;obtain⟨b',e1,e2⟩:=hs.mark i hi hm;refine⟨b',(hρ i).trans e1,?_⟩;exact bt
 .intro i st fr ps asg bd hi hm;have e:i≠id:=Dh;rw[dG e]at hm;obtain⟨b',r,e1,e2,e3,e4,e5,e6,e7⟩:=hs.loop i st fr ps asg bd hi hm;refine⟨b',r,(hρ i).trans e1,?_,e3,e4,e5,e6.mono nx,e7⟩;exact bt
 .exact qz
 .intro i b' hi h5;rw[hρ]at h5;show b'<w'.heap.size
  rw[h0.2.2.2];exact hs.lt i b' hi h5
 .exact jg
 .intro a ha;exact hs.fresh a (by show c.w.heap.size<=a.block;rw[<-h0.2.2.2];exact ha)
theorem Nx.ZL{w':World}{id n n' size:Nat}{e:TypeId}{v':Value}(hs:Sr c)(hd:c.D id)(hq:c.σ[id]?=some (.own e size n))(hfl:fl<=id)(hn:n<n')
  (h0:w'.os=c.w.os/\w'.tape=c.w.tape/\w'.output=c.w.output/\c.w.heap.size<=w'.heap.size)
  (h1:∀k,k<c.w.heap.size->aW (c.ρ id)≠some k->w'.heap[k]?=c.w.heap[k]?)
  (h2:∀(a:Addr) (u:Value),(∀b,aW (c.ρ id)=some b->a.block=b->a.off<n*size)->c.w.cell? a=some u->w'.cell? a=some u)
  (h3:aW v'=aW (c.ρ id)\/∀b,aW v'=some b->c.w.heap.size<=b) :
  Nx fl c (c.put w' id v' (.own e size n')):=by
 refine⟨rfl,h0.1,h0.2.1,h0.2.2.1,h0.2.2.2,Bs,?_,λ_ h=>h,λ_ h=>.inl h,?_,?_,?_,?_,?_,?_,?_,λi _ hi=>dG (λe=>hi Cu)⟩
 .intro a u ha hu;have hav:∀b,aW (c.ρ id)=some b->a.block=b->a.off<n*size:=ha.2 id _ hd hq;refine⟨⟨ha.1,λi o hi ho=>?_⟩,h2 a u hav hu⟩
  by_cases e':i=id
  .subst e';rw[eZ (hs.aZ i hd)]at ho;simp only[yAb]at ho;subst ho;rw[nW];intro b hb hab;rcases h3 with h3|h3
   .have:=hav b (by rw[<-h3];exact hb) hab;exact yBO this (yBU _ (yDe hn))
   .have:=h3 b hb;have:=M5 hu;omega
  .rw[dG e']at ho;rw[fM e'];exact ha.2 i o hi ho
 .exact mw
 .exact nq
 .intro i e0 s m hi ho
  by_cases e':i=id
  .subst e';rw[hq]at ho;simp only[yAb,U.own.injEq]at ho;obtain⟨rfl,rfl,rfl⟩:=ho;exact⟨n',eZ (hs.aZ i hd),yDe hn,λh=>ym⟩
  .exact⟨m,by rw[dG e'];exact ho,yAk _,λ_=>fM e'⟩
 .intro i e0 s v cs hi ho;have e':i≠id:=zj;exact⟨v,cs,by rw[dG e']at ho;exact ho,yAk _,λ_=>fM e'⟩
 .exact gw
 .intro k hk hx;exact h1 k hk (hx id hd hfl)
 .exact og
theorem Sr.ZL{w':World}{id n n' size:Nat}{e:TypeId}{v':Value}{xs:Ds}(hs:Sr c)(hd:c.D id)(hq:c.σ[id]?=some (.own e size n))(hn:n<n')
  (h0:w'.os=c.w.os/\w'.tape=c.w.tape/\w'.output=c.w.output/\c.w.heap.size<=w'.heap.size)
  (h1:∀k,k<c.w.heap.size->aW (c.ρ id)≠some k->w'.heap[k]?=c.w.heap[k]?)
  (h2:∀(a:Addr) (u:Value),(∀b,aW (c.ρ id)=some b->a.block=b->a.off<n*size)->c.w.cell? a=some u->w'.cell? a=some u)
  (h3:aW v'=aW (c.ρ id)\/∀b,aW v'=some b->c.w.heap.size<=b) (h4:w'.ownsRowF 0 e size v' n' xs) (h5:∀b,aW v'=some b->b<w'.heap.size) :
  Sr (c.put w' id v' (.own e size n')):=by
 have nx:Nx 0 c (c.put w' id v' (.own e size n')):=Nx.ZL hs hd hq (yAF _) hn h0 h1 h2 h3;have hoth:∀i b,c.D i->i≠id->aW (c.ρ i)=some b->aW v'≠some b:=λi b hi hne hb hb'=>by
  exact ki
 refine⟨?_,?_,?_,?_,?_,?_,?_,?_,?_,?_,hs.iG.mono nx⟩
 .exact vj
 .intro i e0 s m hi ho
  by_cases e':i=id
  .subst e';rw[eZ (hs.aZ i hd)]at ho;simp only[yAb,U.own.injEq]at ho;obtain⟨rfl,rfl,rfl⟩:=ho;rw[nW];exact⟨xs,h4⟩
  .rw[dG e']at ho;obtain⟨ys,hy⟩:=hs.own i e0 s m hi ho;rw[fM e'];exact⟨ys,O6 hy (λg hg=>h1 g (hs.lt i g hi hg) (λh=>hs.inj i id g hi hd e' hg h))⟩
 .intro i e0 size' ver ds hi ho;have e':i≠id:=zj;rw[dG e']at ho;obtain⟨b',C,cur,e1,e2,e3,e4,e5,e6,e7,e8⟩:=hs.row i e0 size' ver ds hi ho;exact wq
 .exact vh
 .exact vn
 .exact vc
 .exact cv
 .exact ld
 .exact jg
 .intro a ha;exact hs.fresh a (yBe h0.2.2.2 ha)
def U.nc:U->Prop
 |.box _=>False
 |.own _ _ _=>False
 |.row _ _ _ _=>False
 |_=>True
theorem Nx.EY{id b:Nat}{o o':U}{x x':Obj}(hs:Sr c)(hd:c.D id)(ho:c.σ[id]?=some o)(hn:o.nc)(hn':o'.nc)(hb:aW (c.ρ id)=some b)(hfl:fl<=id)
  (hx:c.w.heap[b]?=some x) (hxc:∀cs T fz,x≠.cells cs T fz) :
  Nx fl c (c.put (c.w.putObj b x') id (c.ρ id) o'):=by
 have hρ:∀i,(c.put (c.w.putObj b x') id (c.ρ id) o').ρ i=c.ρ i:=λi=>by
  exact jj
 refine⟨rfl,rfl,rfl,rfl,Bs,Bs,?_,λ_ h=>h,λ_ h=>.inl h,?_,?_,?_,?_,?_,?_,?_,λi _ hi=>dG (λe=>hi Cu)⟩
 .intro a u ha hu;have hne:a.block≠b:=by
   intro e;unfold World.cell? at hu;rw[e,hx]at hu;cases x<;>first|exact hxc _ _ _ rfl|(simp at hu)
  refine⟨⟨ha.1,λi oo hi hoo=>?_⟩,by show(c.w.putObj b x').cell? a=some u;rw[yCp (yCs hne)];exact hu⟩;rw[hρ]
  by_cases e:i=id
  .subst e;rw[eZ (hs.aZ i hd)]at hoo;simp only[yAb]at hoo;subst hoo;cases o'<;>first|exact hn'.elim|trivial
  .rw[dG e]at hoo;exact ha.2 i oo hi hoo
 .intro i p hi hp;have e:i≠id:=by rintro rfl;rw[ho]at hp;simp only[yAb]at hp;subst hp;exact hn
  exact⟨hρ i,p,by rw[dG e];exact hp⟩
 .intro i hi hni;refine⟨hρ i,?_⟩
  by_cases e:i=id
  .subst e;rw[eZ (hs.aZ i hd)];cases o'<;>first|exact hn'.elim|trivial
  .rw[dG e];exact hni
 .intro i e0 s n hi hi';have e:i≠id:=by rintro rfl;rw[ho]at hi';simp only[yAb]at hi';subst hi';exact hn
  exact⟨n,by rw[dG e];exact hi',yAk _,λ_=>hρ i⟩
 .intro i e0 s v cs hi hi';have e:i≠id:=by rintro rfl;rw[eZ (hs.aZ i hd)]at hi';simp only[yAb]at hi';subst hi';exact hn'
  exact⟨v,cs,by rw[dG e]at hi';exact hi',yAk _,λ_=>hρ i⟩
 .intro i b' hi hb' _;rw[hρ]at hb';exact⟨hi,hb'⟩
 .intro k _ hk;exact yCs (λe=>hk id hd hfl (by rw[e];exact hb))
 .exact og
theorem Sr.EY{id b:Nat}{o o':U}{x x':Obj}(hs:Sr c)(hd:c.D id)(ho:c.σ[id]?=some o)(hn:o.nc)(hn':o'.nc)(hb:aW (c.ρ id)=some b)
  (hx:c.w.heap[b]?=some x) (hxc:∀cs T fz,x≠.cells cs T fz)
  (hfit:match o' with
   |.mark=>x'=.deferred (some [])/\c.ρ id=.pointer (some ⟨b,0,none⟩)
   |.map es=>(∃ents clock,x'=.map ents clock/\aK c (ents.toList.map MapEntry.key) (es.map Prod.fst)/\aK c (ents.toList.map MapEntry.val) (es.map Prod.snd))/\c.ρ id=.map (some b)
   |.loop st fr ps assign body=>c.ρ id=.pointer (some ⟨b,0,none⟩)/\∃r,x'=.loop r/\r.params=ps.toArray/\r.assign=assign/\r.body=body/\aK c r.tmps.toList fr/\st.fits r
   |_=>True):Sr (c.put (c.w.putObj b x') id (c.ρ id) o'):=by
 have nx:Nx 0 c (c.put (c.w.putObj b x') id (c.ρ id) o'):=Nx.EY hs hd ho hn hn' hb (yAF _) hx hxc;have hρ:∀i,(c.put (c.w.putObj b x') id (c.ρ id) o').ρ i=c.ρ i:=λi=>by
  exact jj
 have hlt:b<c.w.heap.size:=fX hx;have hnew:(c.w.putObj b x').heap[b]?=some x':=World.putObj_heap_same hlt;refine⟨?_,?_,?_,?_,?_,?_,?_,?_,?_,?_,hs.iG.mono nx⟩
 .intro i p hi hp;have e:i≠id:=by
   rintro rfl
   rw[eZ (hs.aZ i hd)]at hp;simp only[yAb]at hp;subst hp;exact hn'
  rw[dG e]at hp;obtain⟨b',cs',T',e1,e2,e3,e4⟩:=hs.box i p hi hp;refine⟨b',cs',T',(hρ i).trans e1,?_,e3.mono nx,e4⟩;exact bn
 .intro i e0 s n hi hi';have e:i≠id:=by
   exact qu
  rw[dG e]at hi';obtain⟨xs,hx'⟩:=hs.own i e0 s n hi hi';rw[hρ];exact⟨xs,O6 hx' (λg hg=>yCs (λe''=>hs.inj i id g hi hd e hg (by rw[e''];exact hb)))⟩
 .intro i e0 size ver ds hi hi';have e:i≠id:=by
   exact qu
  rw[dG e]at hi';obtain⟨b',C,cur,e1,e2,e3,e4,e5,e6,e7,e8⟩:=hs.row i e0 size ver ds hi hi';refine⟨b',C,cur,(hρ i).trans e1,?_,e3,e4,e5,e6,e7.mono nx,e8⟩;exact bn
 .intro i es hi hm
  by_cases e:i=id
  .subst e;rw[eZ (hs.aZ i hd)]at hm;simp only[yAb]at hm;subst hm;obtain⟨⟨ents,clock,e2,e3,e4⟩,e1⟩:=hfit;subst e2;exact⟨b,ents,clock,(hρ i).trans e1,hnew,e3.mono nx,e4.mono nx⟩
  .rw[dG e]at hm;obtain⟨b',ents,clock,e1,e2,e3,e4⟩:=hs.map i es hi hm;refine⟨b',ents,clock,(hρ i).trans e1,?_,e3.mono nx,e4.mono nx⟩;exact bn
 .intro i hi hm
  by_cases e:i=id
  .subst e;rw[eZ (hs.aZ i hd)]at hm;simp only[yAb]at hm;subst hm;obtain⟨hfit,hr⟩:=hfit;subst hfit;exact⟨b,(hρ i).trans hr,hnew⟩
  .rw[dG e]at hm;obtain⟨b',e1,e2⟩:=hs.mark i hi hm;refine⟨b',(hρ i).trans e1,?_⟩;exact bn
 .intro i st fr ps asg bd hi hm
  by_cases e:i=id
  .subst e;rw[eZ (hs.aZ i hd)]at hm;simp only[yAb]at hm;subst hm;obtain⟨hr,r,e2,e3,e4,e5,e6,e7⟩:=hfit;subst e2;exact⟨b,r,(hρ i).trans hr,hnew,e3,e4,e5,e6.mono nx,e7⟩
  .rw[dG e]at hm;obtain⟨b',r,e1,e2,e3,e4,e5,e6,e7⟩:=hs.loop i st fr ps asg bd hi hm;refine⟨b',r,(hρ i).trans e1,?_,e3,e4,e5,e6.mono nx,e7⟩;exact bn
 .exact qz
 .intro i b' hi h5;rw[hρ]at h5;show b'<(c.w.putObj b x').heap.size
  simpa using hs.lt i b' hi h5
 .exact jg
 .intro a ha;exact hs.fresh a (by simpa [Cx.put]using ha)
theorem Nx.putRow{w':World}{id size ver fH:Nat}{e:TypeId}{v':Value}{ds ds':Dq}(hs:Sr c)(hd:c.D id)(hq:c.σ[id]?=some (.row e size ver ds))(hfl:fl<=id)(hver:ver<=fH)(hsame:ver=fH->v'=c.ρ id)
  (h0:w'.os=c.w.os/\w'.tape=c.w.tape/\w'.output=c.w.output/\c.w.heap.size<=w'.heap.size)
  (h1:∀k,k<c.w.heap.size->aW (c.ρ id)≠some k->w'.heap[k]?=c.w.heap[k]?)
  (h3:aW v'=aW (c.ρ id)\/∀b,aW v'=some b->c.w.heap.size<=b) :
  Nx fl c (c.put w' id v' (.row e size fH ds')):=by
 refine⟨rfl,h0.1,h0.2.1,h0.2.2.1,h0.2.2.2,Bs,?_,λ_ h=>h,λ_ h=>.inl h,?_,?_,?_,?_,?_,?_,?_,λi _ hi=>dG (λe=>hi Cu)⟩
 .intro a u ha hu;have hne:∀b,aW (c.ρ id)=some b->a.block≠b:=ha.2 id _ hd hq;refine⟨⟨ha.1,λi o hi ho=>?_⟩,by
   show w'.cell? a=some u
   rw[yCp (h1 a.block (M5 hu) (λh=>hne _ h rfl))];exact hu⟩
  by_cases e':i=id
  .subst e';rw[eZ (hs.aZ i hd)]at ho;simp only[yAb]at ho;subst ho;rw[nW];intro b hb hab;rcases h3 with h3|h3
   .exact hne b (by rw[<-h3];exact hb) hab
   .have:=h3 b hb;have:=M5 hu;omega
  .rw[dG e']at ho;rw[fM e'];exact ha.2 i o hi ho
 .exact mw
 .exact nq
 .intro i e0 s m hi ho;have e':i≠id:=by rintro rfl;rw[hq]at ho;cases ho
  exact⟨m,by rw[dG e'];exact ho,yAk _,λ_=>fM e'⟩
 .intro i e0 s v cs hi ho
  by_cases e':i=id
  .subst e';rw[eZ (hs.aZ i hd)]at ho;simp only[yAb,U.row.injEq]at ho;obtain⟨rfl,rfl,rfl,rfl⟩:=ho;exact⟨ver,ds,hq,hver,λh=>by rw[nW];exact hsame h⟩
  .exact⟨v,cs,by rw[dG e']at ho;exact ho,yAk _,λ_=>fM e'⟩
 .exact gw
 .intro k hk hx;exact h1 k hk (hx id hd hfl)
 .exact og
theorem Sr.putRow{w':World}{id size ver fH:Nat}{e:TypeId}{v':Value}{ds ds':Dq}(hs:Sr c)(hd:c.D id)(hq:c.σ[id]?=some (.row e size ver ds))(hver:ver<=fH)(hsame:ver=fH->v'=c.ρ id)
  (h0:w'.os=c.w.os/\w'.tape=c.w.tape/\w'.output=c.w.output/\c.w.heap.size<=w'.heap.size)
  (h1:∀k,k<c.w.heap.size->aW (c.ρ id)≠some k->w'.heap[k]?=c.w.heap[k]?)
  (h3:aW v'=aW (c.ρ id)\/∀b,aW v'=some b->c.w.heap.size<=b)
  (h4:∃b C cur,v'=.slice (some ⟨b,0,none⟩) 0 C/\w'.heap[b]?=some (.cells cur e (0,0))/\cur.size=C*size/\C<=maxLen/\0<size/\ds'.length<=cur.size/\aK c (cur.toList.take ds'.length) ds'/\∀v∈cur.toList,v.oneCell'=true) :
  Sr (c.put w' id v' (.row e size fH ds')):=by
 have nx:Nx 0 c (c.put w' id v' (.row e size fH ds')):=Nx.putRow hs hd hq (yAF _) hver hsame h0 h1 h3;have h5:∀b,aW v'=some b->b<w'.heap.size:=λb hb=>by
  obtain⟨b',C,cur,rfl,h6,_⟩:=h4;simp only[aW,yAb]at hb;subst hb;exact fX h6
 have hoth:∀i b,c.D i->i≠id->aW (c.ρ i)=some b->aW v'≠some b:=λi b hi hne hb hb'=>by
  exact ki
 refine⟨?_,?_,?_,?_,?_,?_,?_,?_,?_,?_,hs.iG.mono nx⟩
 .exact vj
 .intro i e0 s n hi ho;have e':i≠id:=zj;rw[dG e']at ho;obtain⟨xs,hx⟩:=hs.own i e0 s n hi ho;rw[fM e'];exact⟨xs,O6 hx (λg hg=>h1 g (hs.lt i g hi hg) (λh=>hs.inj i id g hi hd e' hg h))⟩
 .intro i e0 size' aT3 ds0 hi ho
  by_cases e':i=id
  .subst e';rw[eZ (hs.aZ i hd)]at ho;simp only[yAb,U.row.injEq]at ho;obtain⟨rfl,rfl,rfl,rfl⟩:=ho;obtain⟨b',C,cur,e1,e2,e3,e4,e5,e6,e7,e8⟩:=h4;exact⟨b',C,cur,nW.trans e1,e2,e3,e4,e5,e6,e7.mono nx,e8⟩
  .rw[dG e']at ho;obtain⟨b',C,cur,e1,e2,e3,e4,e5,e6,e7,e8⟩:=hs.row i e0 size' aT3 ds0 hi ho;exact wq
 .exact vh
 .exact vn
 .exact vc
 .exact cv
 .exact ld
 .exact jg
 .intro a ha;exact hs.fresh a (yBe h0.2.2.2 ha)
end
end
section
open Go.RowKit
section
variable{P:Program}{c:Cx}{fl:Nat}
theorem KE(b off j:Nat):(⟨b,off,none⟩:Addr).add j=⟨b,off+j,none⟩:=ze
theorem aT1{α:Type}(l vs:List α)(off dl:Nat)(h1:off+vs.length<=dl)(h2:dl<=l.length) :
  (l.take off++vs++l.drop (off+vs.length)).take dl=(l.take dl).take off++vs++(l.take dl).drop (off+vs.length):=by
 have e1:(l.take dl).take off=l.take off:=by rw[yDv];congr 1;omega
 have e2:(l.take off++vs).length=off+vs.length:=zc;rw[e1,List.take_append,e2,yAz (by rw[e2];omega),List.drop_take]
theorem aK.fill{cells vs:Ds}{z ws:Dq}(hz:aK c cells z)(hv:aK c vs ws)(h1:∀v∈vs,v.oneCell'=true)(off:Nat)(hle:off+ws.length<=z.length) :
  aK c (cells.take off++vs++cells.drop (off+vs.length)) (jG z off ws):=by
 have:=aFn hz (v:=.agg vs.toArray) (p:=.agg ws) (.agg vs ws hv.1 h1 hv.2) off hle;simpa [Value.cells,PD.cells]using this
theorem aB5(hs:Sr c){id e size ver:Nat}{ds:Dq}(hd:c.D id)(hq:c.σ[id]?=some (.row e size ver ds)){b C:Nat}(hr:c.ρ id=.slice (some ⟨b,0,none⟩) 0 C){vs:Ds}{ws:Dq}(hv:aK c vs ws)
  (h1:∀v∈vs,v.oneCell'=true) {off:Nat} (hle:off+ws.length<=ds.length) (hfl:fl<=id) :
  ∃w',(storeCells ⟨b,off,none⟩ vs).run P c.w=.ok () w'/\Sr (c.put w' id (c.ρ id) (.row e size ver (jG ds off ws)))/\Nx fl c (c.put w' id (c.ρ id) (.row e size ver (jG ds off ws))):=by
 obtain⟨b',C',cur,e1,e2,e3,e4,e5,e6,e7,e8⟩:=hs.row id e size ver ds hd hq;rw[hr]at e1;simp only[yBG,yAb,yBt,yAV,yBM]at e1;obtain⟨rfl,rfl⟩:=e1;have hvl:vs.length=ws.length:=hv.1;have hst:=yDz (P:=P) b off e vs 0 cur c.w e2 ym h1;simp only[yCc]at hst;refine⟨_,hst,?_,?_⟩
 .refine Sr.putRow hs hd hq (yAk _) (λ_=>rfl) ⟨rfl,rfl,rfl,yo⟩ (λk _ hk=>yCk _ _ _ _ (λh=>hk (by rw[hr,h];rfl))) (.inl rfl)
   ⟨b,C,_,hr,yCP _ _ cur _ e (0,0) e2,?_,e4,e5,?_,?_,?_⟩
  .simp;omega
  .simp[jG];omega
  .have hpl:(jG ds off ws).length=ds.length:=by simp[jG];omega
   rw[hpl];show aK c (List.take ds.length (cur.toList.take off++vs++cur.toList.drop (off+vs.length))) _
   rw[aT1 _ _ _ _ ym (by simpa using e6)];exact e7.fill hv h1 off hle
  .exact ZD e8 h1 off (off+vs.length)
 .exact Nx.putRow hs hd hq hfl (yAk _) (λ_=>rfl) ⟨rfl,rfl,rfl,yo⟩ (λk _ hk=>yCk _ _ _ _ (λh=>hk (by rw[hr,h];rfl))) (.inl rfl)
end
end
section
open Go.RowKit
section
variable{P:Program}{c:Cx}{fl:Nat}
def Leaves(fl:Nat)(c:Cx)(p:PD)(σ':List U)(v:Value)(w':World):Prop:=
 ∃c',c'.w=w'/\c'.σ=σ'/\Sr c'/\Nx fl c c'/\VR c' v p/\∀id,c'.D id->c.D id\/(c.σ.length<=id/\id<σ'.length)
theorem UW{w:World}{a:Addr}{cs:Ds}{n:Nat}(hn:cs.length=n)(h:∀(j:Nat) (v:Value),cs[j]?=some v->w.cell? (a.add j)=some v) :
  (loadCells a n).run P w=.ok cs.toArray w:=by
 subst hn;exact run_loadCells_list w a cs h
theorem aFk{w:World}{ad:Addr}{cE:Ds}{ds:Dq}(hl:aK c cE ds)(h1:∀v∈cE,v.oneCell'=true)(hc:∀(j:Nat) (v:Value),cE[j]?=some v->w.cell? (ad.add j)=some v)
  {t:TypeId} {off:Nat} {p:PD} (h:nN P t ds off=some p):∃v,(loadVar t (ad.add off)).run P w=.ok v w/\VR c v p:=by
 unfold nN at h;split at h
 .rename_i n ha hs;split at h
  .rename_i hle;simp only[yAb]at h;subst h;have hlen:((cE.drop off).take n).length=n:=by have:=hl.1;simp;omega
   refine⟨.agg ((cE.drop off).take n).toArray,?_,?_⟩
   .have:=UW (P:=P) (w:=w) (a:=ad.add off) hlen (λj v hv=>by
     rw[yAv]at hv;split at hv
     .rw[yBy]at hv;rw[QR];exact hc _ v hv
     .simp at hv)
    simp[loadVar,aCa ha,mF hs,this]
   .have h2:=hl.take_drop off n;exact .agg _ _ h2.1 (λv hv=>h1 v (yBJ (yAy hv))) h2.2
  .exact ah
 .rename_i n ha hs;obtain⟨v,hv,hr⟩:=hl.get h;exact⟨v,by simp[loadVar,aCa ha,hc _ v hv],hr⟩
 .exact ah
theorem aJZ(hs:Sr c){t:TypeId}{a p:PD}(h:kW P c.σ t a=some p){va:Value}(ha:VR c va a):∃v,(Instr.loadAt t va).run P c.w=.ok v c.w/\VR c v p:=by
 unfold kW at h;split at h
 .rename_i id off;split at h
  .rename_i q hq;obtain⟨b,rfl,hd,_,hr⟩:=ha.qN;obtain⟨b',cs,T,e1,e2,e3,e4⟩:=hs.box id q hd hq;rw[hr]at e1;simp only[yBN,yAb,yBt,yAV]at e1;subst e1;have hadd:∀j,(⟨b,0,none⟩:Addr).add j=⟨b,j,none⟩:=λj=>ze
   obtain⟨v,r,q⟩:=aFk (P:=P) (w:=c.w) (ad:=⟨b,0,none⟩) e3 e4.1 (λj v hv=>by
    rw[hadd];simp only[World.cell?,e2];simpa using hv) h
   rw[hadd]at r;exact mz
  .exact ah
 .rename_i cs off;obtain⟨ad,cE,rfl,h1,h2,h3⟩:=ha.U2;obtain⟨v,r,q⟩:=aFk (P:=P) (w:=c.w) h1 h2 (λj v hv=>(h3 j v hv).1) h;exact mz
 .rename_i id ver off;split at h
  .rename_i e sz fH cs hq;split at h
   .rename_i hver;subst hver;obtain⟨b,rfl,hp⟩:=ha.UR;obtain⟨C,hr⟩:=(hp.2 e sz _ cs hq).2 rfl;obtain⟨b',C',cur,e1,e2,e3,e4,e5,e6,e7,e8⟩:=hs.row id e sz _ cs hp.1 hq;rw[hr]at e1;simp only[yBG,yAb,yBt,yAV,yBM]at e1;obtain⟨rfl,rfl⟩:=e1;obtain⟨v,r,q⟩:=aFk (P:=P) (w:=c.w) (ad:=⟨b,0,none⟩) e7 (λv hv=>e8 v (yAy hv)) (λj v hv=>by
     rw[KE];simp only[World.cell?,e2];rw[yAv]at hv;split at hv
     .simpa using hv
     .cases hv) h
    rw[KE]at r;simp only[yAp]at r;exact mz
   .cases h
  .cases h
 .exact ah
theorem KB(w:World)(o:Obj):w.grownBy (w.alloc o) none:=World.grownBy_alloc w o none
theorem aTZ{c:Cx}{v:Value}{p:PD}(h:J9 v=some p):VR c v (G1 p):=by
 by_cases hp:p=.slice 0 [] .full
 .subst hp;have hv:v=.slice none 0 0:=by
   unfold J9 at h;split at h<;>first|rfl|(simp at h;done)
  subst hv;exact .slice none 0 0 0 [] .nil [] rfl (yAk _) (by simp[maxLen]) yo rfl yo yo yo ⟨rfl,rfl,rfl⟩
 .have:G1 p=p:=by
   unfold G1;split
   .exact absurd rfl hp
   .rfl
  rw[this];exact(aFl h).1
theorem aKF{c:Cx}:∀ {vs:Ds} {ps:Dq},ET vs=some ps->aK c vs (ps.map G1)
 | [],ps,h=>by simp[ET]at h;subst h;exact⟨rfl,yo⟩
 |v::vs,ps,h=>by
  unfold ET at h;cases h1:J9 v with
  |none=>simp[h1]at h
  |some p=>
   cases h2:ET vs with
   |none=>simp[h1,h2]at h
   |some qs=>
    simp[h1,h2]at h;subst h;have a1:=aTZ (c:=c) h1;obtain⟨b1,b2⟩:=aKF (c:=c) h2;refine⟨by simpa using b1,λi v' d hv hd=>?_⟩;exact jz
theorem aT0{c:Cx}{v:Value}{p:PD}(t:TypeId)(h:ofValue v=some p):aK c v.cells.toList (boxed t p).cells:=by
 have h0:=(aFm (c:=c) h).cells;cases p with
 |agg cs=>
  show aK c _ (if G0 t=true then PD.typed t (cs.map G1)else PD.agg cs).cells
  by_cases ht:G0 t=true
  .rw[yAJ ht];unfold ofValue at h;split at h
   .split at h
    .rename_i ps hps;simp only[yAb,PD.agg.injEq]at h;subst h;exact aKF hps
    .exact ah
   .split at h<;>simp at h
   .unfold J9 at h;split at h<;>simp at h
  .rw[yAI ht];exact h0
 |_=>exact h0
theorem aBV{t:TypeId}{p:PD}(h:dT P t=some p){v:Value}{i:TypeInfo}(hi:P.info? t=some i)(hz:i.zero=some v)(t':TypeId):aK c v.cells.toList (boxed t' p).cells:=by
 unfold dT at h;rw[hi]at h;simp only[hz]at h;exact aT0 t' h
theorem aBW{c:Cx}{T t:TypeId}{p:PD}{v:Value}{ds:Dq}(hv:VR c v p)(h:boxed T p=.typed t ds):T=t:=by
 unfold boxed at h;exact ov
theorem aTn(t:TypeId)(p:PD):(nP t p).cells=p.cells:=by
 unfold nP;split
 .split<;>rfl
 .rfl
theorem aTo{c:Cx}{T t:TypeId}{p:PD}{v:Value}{ds:Dq}(hv:VR c v p)(h:nP T p=.typed t ds):T=t:=by
 unfold nP at h;exact ov
theorem aE0(hs:Sr c){p:PD}{v:Value}(hcv:aK c v.cells.toList p.cells)(h1:∀u∈v.cells.toList,u.oneCell'=true)(T:TypeId)(hT:∀t ds,p=.typed t ds->T=t) :
  (newVar T v).run P c.w=.ok ⟨c.w.heap.size,0,none⟩ (c.w.alloc (.cells v.cells T)) /\
  Leaves fl c (.ptr c.σ.length 0) (c.σ++[.box p]) (.pointer (some ⟨c.w.heap.size,0,none⟩)) (c.w.alloc (.cells v.cells T)):=by
 refine⟨by simp[newVar,newRow],c.push (c.w.alloc (.cells v.cells T)) (.pointer (some ⟨c.w.heap.size,0,none⟩)) (.box p),rfl,rfl,?_,?_,?_,?_⟩
 .refine Sr.push hs (KB _ _) (λb hb=>?_) ⟨_,v.cells,T,rfl,yBL _ _,hcv,h1,hT⟩;simp[aW]at hb;subst hb;simp
 .refine Nx.push hs (KB _ _) (λb hb=>?_);simp[aW]at hb;subst hb;exact yAk _
 .exact .ptr _ _ _ (.inr rfl) ⟨p,fS.1⟩ fS.2.1
 .exact bh
theorem aKq{q q':PD}{off:Nat}{new:Dq}(h:q.setCells off new=some q')(hn:new.all PD.plain=true):off+new.length<=q.cells.length/\q'.cells=jG q.cells off new:=by
 unfold PD.setCells at h;split at h
 .split at h
  .exact ur
  .exact ah
 .split at h
  .exact ur
  .exact ah
 .rename_i hne aCb;split at h
  .rename_i h0;subst h0;split at h
   .rename_i r;simp only[yAb]at h;subst h;have hq:q.cells=[q]:=by cases q<;>first|rfl|(exact(hne _ rfl).elim)|(exact(aCb _ _ rfl).elim)
    have hr:r.cells=[r]:=by
     have:r.plain=true:=Br;cases r<;>first|rfl|(simp[PD.plain]at this)
    rw[hq,hr];exact⟨yo,by simp[jG]⟩
   .exact ah
  .exact ah
theorem aKr{q q':PD}{off:Nat}{new:Dq}(h:q.setCells off new=some q')(hn:new.all PD.plain=true){t:TypeId}{ds:Dq}(e:q'=.typed t ds):∃ds',q=.typed t ds':=by
 subst e;unfold PD.setCells at h;split at h
 .split at h<;>simp at h
 .split at h
  .simp only[yAb,PD.typed.injEq]at h;obtain⟨rfl,_⟩:=h;exact⟨_,rfl⟩
  .exact ah
 .split at h
  .split at h
   .simp only[yAb]at h;subst h;simp[PD.plain]at hn
   .exact ah
  .exact ah
theorem aTm(hs:Sr c){t:TypeId}{a p:PD}{σ':Dp}(h:qO P fl c.σ t a p=some σ'){va v:Value}(ha:VR c va a)(hv:VR c v p) :
  ∃w',(Instr.storeAt t va v).run P c.w=.ok () w'/\Leaves fl c (.aI []) σ' undef w':=by
 unfold qO at h;split at h
 .rename_i id off;split at h
  .rename_i hfl;split at h
   .rename_i q n hq hn;split at h
    .rename_i hp;split at h
     .rename_i q' lM;simp only[yAb]at h;subst h;obtain⟨b,rfl,hd,_,hr⟩:=ha.qN;obtain⟨b',cs,T,e1,e2,e3,e4⟩:=hs.box id q hd hq;rw[hr]at e1;simp only[yBN,yAb,yBt,yAV]at e1;subst e1;obtain⟨hle,hcq⟩:=aKq lM hp.2;have hvc:=hv.cells;have lQ:=aK.G3 hvc hp.2;have hvl:v.cells.toList.length=n:=by rw[hvc.1];exact hp.1
      have hcl:cs.toList.length=q.cells.length:=e3.1;have hst:=yDz (P:=P) b off T v.cells.toList 0 cs c.w e2 (by have:=hvc.1;simp at hcl ⊢;simp at this;omega) lQ;simp only[yCc]at hst;refine⟨_,?_,c.put (c.w.setRow b (cs.toList.take off++v.cells.toList++cs.toList.drop (off+v.cells.toList.length)).toArray) id (c.ρ id) (.box q'),rfl,rfl,?_,?_,ZI _,λi hi=>.inl hi⟩
      .have hsz:v.cells.size=n:=by simpa using hvl
       exact nt
      .refine Sr.J4 (T:=T) hs hd hq hr ⟨rfl,rfl,rfl,yo⟩ (λk hk=>yCk _ _ _ _ hk) (yCP _ _ cs _ T (0,0) e2) ?_ ?_
       .rw[hcq];have:=aFn e3 hv off (by rw[hvc.1]at hvl;omega);exact bp
       .refine⟨by have:=ZD e4.1 lQ off (off+v.cells.toList.length);simpa using this,λt ds e=>?_⟩;exact e4.2 t _ (aKr lM hp.2 e).choose_spec
      .exact su
     .exact ah
    .exact ah
   .exact ah
  .exact ah
 .rename_i id ver off;split at h
  .rename_i hfl;split at h
   .rename_i e sz fH cs n hq hn;split at h
    .rename_i hc;obtain⟨rfl,hpl,hpp,hle⟩:=hc;simp only[yAb]at h;subst h;obtain⟨b,rfl,hp⟩:=ha.UR;obtain⟨C,hr⟩:=(hp.2 e sz _ cs hq).2 rfl;have hvc:=hv.cells;obtain⟨w',hst,hs',hn'⟩:=aB5 (P:=P) (fl:=fl) hs hp.1 hq hr hvc (aK.G3 hvc hpp) (off:=off) ym hfl;have hsz:v.cells.size=n:=by have:=hvc.1;simp at this;omega
     refine⟨w',?_,_,rfl,rfl,hs',hn',ZI _,λi hi=>.inl hi⟩;exact nt
    .exact ah
   .exact ah
  .exact ah
 .exact ah
end
end
section
open Go.RowKit
section
variable{P:Program}{c:Cx}{fl:Nat}
theorem aKz{c':Cx}{e:TypeId}{size n m:Nat}{v':Value}{xs ys:Dq}{flx fly:Ds}{tok:Tok}(hnx:n=xs.length)(hmy:m=ys.length)(hpos:0<n+m)
  (hx:∀x∈xs,x.cells.length=size) (hy:∀x∈ys,x.cells.length=size) (hlx:flx.length=n*size)
  (RB:∀v∈flx,v.oneCell'=true) (h1y:∀v∈fly,v.oneCell'=true)
  (hrx:∀(j:Nat) (v:Value) (d:PD),flx[j]?=some v->(xs.flatMap PD.cells)[j]?=some d->VR c' v d)
  (hry:∀(j:Nat) (v:Value) (d:PD),fly[j]?=some v->(ys.flatMap PD.cells)[j]?=some d->VR c' v d)
  (hown:c'.w.ownsRowF 0 e size v' (n+m) (flx++fly))
  (hav:∀g j,aW v'=some g->j<(n+m)*size->c'.av ⟨g,j,none⟩)
  (htok:∀cap,v'=.slice (match v' with|.slice A _ _=>A|_=>none) (n+m) cap->qW c' size (n+m) cap v' tok) :
  VR c' v' (.slice size (xs++ys) tok):=by
 rcases hown.2 with⟨rfl,h0⟩ | ⟨g,cap,cur,fz,rfl,_,hg,_,hnc,hcm,hcs,htake⟩
 .omega
 .have hlen:(flx++fly).length=(n+m)*size:=hown.1;have hle:(n+m)*size<=cur.toList.length:=by simp[hcs];exact yBU _ hnc
  refine .slice _ (n+m) cap size (xs++ys) tok (flx++fly) (by simp[hnx,hmy]) hnc hcm ?_ hlen ?_ ?_ ?_ (htok cap rfl)
  .intro x hx';rcases yBv.1 hx' with h|h
   .exact hx x h
   .exact hy x h
  .intro v hv;rcases yBv.1 hv with h|h
   .exact RB v h
   .exact h1y v h
  .intro j v hv;have hj:j<(n+m)*size:=by rw[<-hlen];exact(yA.1 hv).1
   refine⟨⟨g,0,none⟩,rfl,?_,?_⟩
   .have hadd:(⟨g,0,none⟩:Addr).add j=⟨g,j,none⟩:=by unfold Addr.add;split<;>simp_all
    rw[hadd];rw[<-htake,yAv,yAJ hj]at hv;simp only[World.cell?,hg];simpa using hv
   .have hadd:(⟨g,0,none⟩:Addr).add j=⟨g,j,none⟩:=by unfold Addr.add;split<;>simp_all
    rw[hadd];exact hav g j rfl hj
  .intro j v d hv hd;rw[yCF]at hd;have hfx:(xs.flatMap PD.cells).length=flx.length:=by rw[RA xs hx,hlx,hnx]
   rw[yCR]at hv hd
   by_cases h:j<flx.length
   .rw[yAJ h]at hv;rw[yAJ (by rw[hfx];exact h)]at hd;exact hrx j v d hv hd
   .rw[yAI h]at hv;rw[yAI (by rw[hfx];exact h),hfx]at hd;exact hry _ v d hv hd
theorem ZJ{c':Cx}{a:Addr}(hX:c'.X a)(h:∀id o,c'.D id->c'.σ[id]?=some o->aW (c'.ρ id)=some a.block->∃e size n,o=.own e size n/\a.off<n*size):c'.av a:=by
 refine⟨hX,λid o hd ho=>?_⟩;cases o with
 |none=>trivial
 |box p=>
  intro b hb hab;obtain⟨_,_,_,e,_⟩:=h id _ hd ho (by rw[hb,hab]);cases e
 |own e size n=>
  intro b hb hab;obtain⟨_,_,_,e',hlt⟩:=h id _ hd ho (by rw[hb,hab]);cases e';exact hlt
 |row e size ver ds=>
  intro b hb hab;obtain⟨_,_,_,e',_⟩:=h id _ hd ho (by rw[hb,hab]);cases e'
 |map es=>trivial
 |mark=>trivial
 |loop st fr ps asg bd=>trivial
theorem aFh{w:World}{e:TypeId}{size n:Nat}{v:Value}{xs:Ds}(h:w.ownsRowF 0 e size v n xs){b:Nat}(hb:aW v=some b):b<w.heap.size:=by
 rcases h.2 with⟨rfl,_⟩ | ⟨g,cap,cur,fz,rfl,_,hg,_⟩
 .simp[aW]at hb
 .simp[aW]at hb;subst hb;exact fX hg
def Xw(fl:Nat)(c:Cx):Prop:=∀id g,c.D id->fl<=id->aW (c.ρ id)=some g->∀a:Addr,a.block=g->c.X a
theorem Xw.next{c':Cx}(h:Xw fl c)(hs:Sr c)(nx:Nx fl c c'):Xw fl c':=by
 intro id g hd hf hb a ha;rw[nx.X];rcases yBF g c.w.heap.size with hlt|hge
 .obtain⟨q1,q2⟩:=nx.back id g hd hb hlt;exact h id g q1 hf q2 a ha
 .exact hs.fresh a ym
theorem aTQ{w:World}{e:TypeId}{size n cap:Nat}{A:Option Addr}{ZK flx:Ds}(h:w.ownsRowF 0 e size (.slice A n cap) n ZK)(hl:flx.length=n*size)
  (hc:∀(j:Nat) (v:Value),flx[j]?=some v->∃ad,A=some ad/\w.cell? (ad.add j)=some v):flx=ZK:=by
 apply yBS;intro j;rcases h.2 with⟨hv,h0⟩ | ⟨g,cap',cur,fz,hv,_,hg,_,hnc,_,hcs,htake⟩
 .have e1:flx=[]:=yAf (by rw[hl,h0];simp);have e2:ZK=[]:=yAf (by rw[h.1,h0];simp);rw[e1,e2]
 .simp only[yBG]at hv;obtain⟨rfl,_,rfl⟩:=hv
  by_cases hj:j<n*size
  .have hj':j<flx.length:=by rw[hl];exact hj
   obtain⟨ad,e,hcell⟩:=hc j flx[j] (by simp[hj']);cases e;have hadd:(⟨g,0,none⟩:Addr).add j=⟨g,j,none⟩:=ze;rw[hadd]at hcell;simp only[World.cell?,hg]at hcell;rw[<-htake,yAv,yAJ hj];rw[yAh hj'];simpa using hcell.symm
  .rw[yBo (by rw[hl];omega),yBo (by rw[h.1];omega)]
structure Src (P:Program) (w:World) (t u ty e:TypeId) (i:TypeInfo) (vx:Value) (m:Nat) (fly:List Value):Prop where
 none_:m=0->∀(A:Option Addr) (n cap:Nat),n<=cap->(Builtin.append_ #[t,u] ty #[.slice A n cap,vx]).run P w=.ok (.slice A n cap) w
 grow:0<m->∀(A:Option Addr) (n cap:Nat) (flx:List Value),(A=none->n=0/\cap=0)->flx.length=n*i.size->(∀(j:Nat) (v:Value),flx[j]?=some v->∃ad,A=some ad/\w.cell? (ad.add j)=some v) ->
  cap<n+m->n+m<=maxLen->(n+m)*i.bytes<=140737488355328 ->
  ∃v' w',(Builtin.append_ #[t,u] ty #[.slice A n cap,vx]).run P w=.ok v' w'/\w'.ownsRowF 0 e i.size v' (n+m) (flx++fly)/\w.grownBy w' none/\∀b,aW v'=some b->w.heap.size<=b
 spare:∀(g n cap:Nat) (flx:List Value),w.ownsRowF 0 e i.size (.slice (some ⟨g,0,none⟩) n cap) n flx->n+m<=cap ->
  ∃w',(Builtin.append_ #[t,u] ty #[.slice (some ⟨g,0,none⟩) n cap,vx]).run P w=.ok (.slice (some ⟨g,0,none⟩) (n+m) cap) w' /\
   w'.ownsRowF 0 e i.size (.slice (some ⟨g,0,none⟩) (n+m) cap) (n+m) (flx++fly)/\w.grownBy w' (some g)
theorem aKA{w:World}{b:Nat}{e:TypeId}{size n:Nat}{v:Value}{xs:Ds}(h:w.ownsRow b e size v n xs):w.ownsRowF 0 e size v n xs:=
 ⟨h.1,h.2.imp (λq=>q) (λ⟨g,cp,cur,q1,_,q2,q3⟩=>⟨g,cp,cur,(0,0),q1,yAF _,q2,yAF _,q3⟩)⟩
theorem aKB{w:World}{b:Nat}{e:TypeId}{size n:Nat}{v:Value}{xs:Ds}(h:w.ownsRow b e size v n xs):∀k,aW v=some k->b<=k:=by
 intro k hb;rcases h.2 with⟨rfl,_⟩ | ⟨g,cp,cur,rfl,hge,_⟩
 .simp[aW]at hb
 .simp[aW]at hb;omega
theorem aTR{w:World}{b:Nat}{e:TypeId}{size n:Nat}{v:Value}{xs:Ds}(h:w.ownsRowF b e size v n xs):∀k,aW v=some k->b<=k:=by
 intro k hb;rcases h.2 with⟨rfl,_⟩ | ⟨g,cp,cur,fz,rfl,hge,_⟩
 .simp[aW]at hb
 .simp[aW]at hb;omega
theorem aTS{w:World}{b:Nat}{e:TypeId}{size n:Nat}{v:Value}{xs:Ds}(h:w.ownsRowF b e size v n xs):w.ownsRowF 0 e size v n xs:=
 ⟨h.1,h.2.imp (λq=>q) (λ⟨g,cp,cur,fz,q1,_,q2⟩=>⟨g,cp,cur,fz,q1,yAF _,q2⟩)⟩
theorem aTT{w:World}{t ty e:TypeId}{i:TypeInfo}{z:Value}(hu:P.underlying t=some (.slice e))(hi:P.info? e=some i)(hz:i.zero=some z)(hzs:z.cells.size=i.size)(hpos:0<i.size){B:Option Addr}{m c':Nat}{fly:Ds}
  (hl:fly.length=m*i.size) (h1:∀v∈fly,v.oneCell'=true) (hb:∀(j:Nat) (v:Value),fly[j]?=some v->∃ad,B=some ad/\w.cell? (ad.add j)=some v):Src P w t t ty e i (.slice B m c') m fly where
 none_:=λh0 A n cap hn=>by
  subst h0;have hfy:(Builtin.firstCells i.size 0 (.slice B 0 c')).run P w=.ok #[] w:=by
   cases B<;>simp[Builtin.firstCells,loadCells,loadCellsFrom]
  exact qi
 grow:=λhm A n cap flx hA hlx hc hcap hmax hby=>by
  have aE9:0<fly.length:=by rw[hl];exact yDi hm hpos
  obtain⟨bd,rfl,_⟩:=hb 0 fly[0] (by simp[aE9]);have hnews:∀(j:Nat) (u:Value),fly[j]?=some u->w.cell? (bd.add j)=some u:=λj u hj=>by
   obtain⟨ad,e',h9⟩:=hb j u hj;exact ji
  cases A with
  |none=>
   obtain⟨rfl,rfl⟩:=hA rfl;have RD:flx=[]:=yAf Df;subst RD;obtain⟨v',w',r,h2,h3,h4,h5⟩:=run_append_own_at (P:=P) w w.heap.size t ty e i z i.size i.bytes hu hi hz rfl rfl hzs hpos (.slice none 0 0) 0 [] (World.ownsRow_nil _ _ _ _)
    bd m c' fly hl hnews h1 ym (by simpa using hby) (yAk _)
   exact⟨v',w',r,aKA h2,h3,aKB h2⟩
  |some ad=>
   have holds:∀(j:Nat) (u:Value),flx[j]?=some u->w.cell? (ad.add j)=some u:=λj u hj=>by
    obtain⟨ZC,e',h9⟩:=hc j u hj;exact ji
   obtain⟨v',w',r,h2,h3⟩:=run_append_arg_grows (P:=P) w t ty e i z i.size i.bytes hu hi hz rfl rfl hzs hpos ad n cap flx hlx holds bd m c' fly hl hnews hcap hmax hby;exact⟨v',w',r,aKA h2,h3,aKB h2⟩
 spare:=λg n cap flx hown hroom=>by
  rcases hown.2 with⟨h0,_⟩ | ⟨g',cap',cur,fz,hv,hbg,hg,hfz,hnc,hcm,hcs,htake⟩
  .cases h0
  .cases hv;have hlen:(flx++fly).length=(n+m)*i.size:=by rw[yAa,hown.1,hl,yBs]
   have hfit:n*i.size+fly.length<=cur.size:=by rw[hl,hcs,<-yBs];exact yBU _ hroom
   have hst:=run_storeCells_atF P g (n*i.size) e fz fly 0 cur w hg (by simpa using hfz) (by simpa using hfit) h1;simp only[yCc]at hst;have hf:(Builtin.firstCells i.size m (.slice B m c')).run P w=.ok fly.toArray w:=by
    cases B with
    |none=>
     have:fly=[]:=by
      cases fly with
      |nil=>rfl
      |cons x xs=>obtain⟨_,e',_⟩:=hb 0 x rfl;cases e'
     exact ql
    |some bd=>
     simp only[Builtin.firstCells];exact UW hl λj v hj=>by
      obtain⟨ad,e',h9⟩:=hb j v hj;exact ji
   have hr:(Builtin.append_ #[t,t] ty #[.slice (some ⟨g,0,none⟩) n cap,.slice B m c']).run P w =
     .ok (.slice (some ⟨g,0,none⟩) (n+m) cap) (w.setRow g (cur.toList.take (n*i.size)++fly++cur.toList.drop (n*i.size+fly.length)).toArray):=by
    simp[Builtin.append_,yAN hu,sizeOf,typeInfo,hi,Builtin.lenOf,hroom,hf,Addr.add_lit,hst]
   refine⟨_,hr,⟨hlen,.inr ⟨g,cap,_,fz,rfl,hbg,yCP w g cur _ e _ hg,?_,hroom,hcm,?_,?_⟩⟩,⟨rfl,rfl,rfl,yo,λk _ hk=>yCk w g k _ (λe=>hk (by simp[e]))⟩⟩
   .exact yBe hfz (yBU _ ym)
   .simp only[yCN,yAa,yAt,yBf,yCf];omega
   .rw[htake,<-hlen];exact yCO
theorem aKm{w:World}{t u ty e:TypeId}{i:TypeInfo}(hu:P.underlying t=some (.slice e))(hs:P.underlying u=some .string)(hi:P.info? e=some i)(hz:i.zero=some (.int .u8 0))(hsz:i.size=1)(hby:i.bytes=1)(l:List UInt8) :
  Src P w t u ty e i (.string ⟨l.toArray⟩) l.length (l.map λb=>.int .u8 b.toNat):=by
 have hsl:(ByteArray.mk l.toArray).size=l.length:=Aj;have hcl:Lib.strCells ⟨l.toArray⟩=l.map λb=>Value.int .u8 b.toNat:=by simp[Lib.strCells]
 refine⟨λh0 A n cap hn=>?_,λhm A n cap flx hA hlx hc hcap hmax hb=>?_,λg n cap flx hown hroom=>?_⟩
 .have:l=[]:=yAf h0;subst this;have hfy:(Builtin.firstCells i.size 0 (.string ⟨#[]⟩)).run P w=.ok #[] w:=by simp[Builtin.firstCells]
  have hl0:(ByteArray.mk (#[]:Array UInt8)).size=0:=rfl;cases A<;>simp[Builtin.append_,yAN hu,yAN hs,sizeOf,typeInfo,hi,Builtin.lenOf,hl0,hfy,hn,storeCells]
 .cases A with
  |none=>
   obtain⟨rfl,rfl⟩:=hA rfl;have RD:flx=[]:=yAf Df;subst RD;obtain⟨v',w',r,h2,h3,_⟩:=Lib.run_append_own_stringF (P:=P) w w.heap.size t u ty e i hu hs hi hz hsz hby (.slice none 0 0) 0 [] (World.ownsRowF_nil _ _ _ _) ⟨l.toArray⟩ ym (by rw[hsl];rw[hby]at hb;omega) (yAk _);rw[hsl,hcl]at h2;rw[hsz];exact⟨v',w',r,aTS h2,h3,aTR h2⟩
  |some ad=>
   have holds:∀(j:Nat) (u:Value),flx[j]?=some u->w.cell? (ad.add j)=some u:=λj u hj=>by
    obtain⟨ZC,e',h9⟩:=hc j u hj;exact ji
   have hr:=Lib.run_append_grow_string (P:=P) w t u ty e i (.int .u8 0) hu hs hi hz ad n cap flx hlx holds ⟨l.toArray⟩ ym Bc (by rw[hby,hsl];exact yDy ym (by rw[hby]at hb;omega));rw[hsl]at hr;have hge:=yDj w (n+l.length) cap e;have aTU:grownCap w (n+l.length) cap e<=maxLen:=yDk w (n+l.length) cap e hmax;refine⟨_,_,hr,⟨by simp[hlx,hsz],.inr ⟨w.heap.size,_,_,(0,0),rfl,yAF _,yBL w.drew _,yAF _,hge,aTU,?_,?_⟩⟩,⟨rfl,rfl,rfl,yo,λk hk _=>yDx w.drew _ hk⟩,λb hb'=>by simp[aW]at hb';omega⟩
   .have hz1:(Value.int IntKind.u8 0).cells.size=1:=rfl;rw[hsz]at hlx;simp only[Array.size_append,yCN,size_zeroCells,hz1,hlx,hcl,yAe,hsz];omega
   .rw[hcl,hsz];simp only[yCM,yAi];rw[<-yAi];have:(n+l.length)*1=(flx++l.map λb=>Value.int .u8 b.toNat).length:=by rw[yAa,hlx,hsz,yAe];omega
    rw[this];exact yCO
 .rcases hown.2 with⟨h0,_⟩ | ⟨g',cap',cur,fz,hv,hbg,hg,hfz,hnc,hcm,hcs,htake⟩
  .cases h0
  .cases hv;rw[hsz]at hown hfz hcs htake;have hxl:flx.length=n:=by simpa using hown.1
   have hr:=Lib.run_append_room_stringF (P:=P) w t u ty e i hu hs hi hsz g n cap cur fz hg (by simpa using hfz) ⟨l.toArray⟩ (by rw[hsl];exact hroom) (by rw[hsl];omega);rw[hsl,hcl]at hr;have hlen:(flx++l.map λb=>Value.int .u8 b.toNat).length=(n+l.length)*1:=by rw[yAa,hxl,yAe,yCn]
   rw[hsz];refine⟨_,hr,⟨hlen,.inr ⟨g,cap,_,fz,rfl,hbg,yCP w g cur _ e _ hg,ym,hroom,hcm,?_,?_⟩⟩,⟨rfl,rfl,rfl,yo,λk _ hk=>yCk w g k _ (λe=>hk (by simp[e]))⟩⟩
   .simp only[yCN,yAa,yAt,yBf,yCf,yAe];omega
   .have ht':cur.toList.take n=flx:=by simpa using htake
    rw[ht',<-hlen];exact yCO
theorem aKC(hs:Sr c)(hX:Xw fl c){t u ty:TypeId}{s p:PD}{sz':Nat}{ys:Dq}{bP:Tok}{σ':Dp}(hnn:∀n xs,s≠.slice n xs .nil)(h:dX P fl c.σ t s (.slice sz' ys bP)=some (p,σ')){vs vx:Value}(hvs:VR c vs s){fly:Ds}
  (b3:∀x∈ys,x.cells.length=sz') (b5:∀v∈fly,v.oneCell'=true) (b7:∀(j:Nat) (v:Value) (d:PD),fly[j]?=some v->(ys.flatMap PD.cells)[j]?=some d->VR c v d)
  (hsrc:∀e i z,P.underlying t=some (.slice e)->P.info? e=some i->i.zero=some z->z.cells.size=i.size->0<i.size->(ys.length=0\/sz'=i.size)->Src P c.w t u ty e i vx ys.length fly) :
  ∃v w',(Builtin.append_ #[t,u] ty #[vs,vx]).run P c.w=.ok v w'/\Leaves fl c p σ' v w':=by
 unfold dX at h;split at h
 .rename_i e hu;split at h
  .rename_i i hi;split at h
   .rename_i z sz xs tok MY ys1 a7q hz hxx;simp only[PD.slice.injEq]at hxx;obtain⟨rfl,rfl,rfl⟩:=hxx;split at h
    .rename_i hc;obtain⟨hsz,RE,hpos,hzs,hmax,hby⟩:=hc;obtain⟨A,cap,flx,rfl,a1,a2,a3,a4,a5,a6,a7,a8⟩:=hvs.oH;have src:=hsrc e i z hu hi hz hzs hpos RE
     by_cases hy0:ys.length=0
     ·
      rw[yAJ hy0]at h;simp only[yAb,yAc]at h;obtain⟨rfl,rfl⟩:=h;exact⟨.slice A xs.length cap,c.w,src.none_ hy0 A _ cap a1,c,rfl,rfl,hs,.refl _ _,hvs,λ_ h=>.inl h⟩
     .rw[yAI hy0]at h;have hypos:0<ys.length:=yCE hy0;have aTV:sz'=i.size:=RE.resolve_left hy0;subst aTV;have hcells:∀(j:Nat) (v:Value),flx[j]?=some v->∃ad,A=some ad/\c.w.cell? (ad.add j)=some v:=λj v hj=>by
       exact kr
      cases tok with
      |any=>simp at h
      |vJ=>simp at h
      |vK=>simp at h
      |nil=>exact absurd rfl (hnn _ _)
      |full=>
       simp only[yAb,yAc]at h;obtain⟨rfl,rfl⟩:=h;simp only[qW]at a8;have hx3:∀x∈xs,x.cells.length=i.size:=λx hx=>by
        have:xs.length≠0:=by intro e0;rw[yDU.1 e0]at hx;cases hx
        rw[<-hsz.resolve_left this];exact a3 x hx
       have hx4:flx.length=xs.length*i.size:=by
        exact uc
       have hA:A=none->xs.length=0/\cap=0:=by
        rintro rfl
        have hx0:xs.length=0:=by
         rcases yDS xs.length with h0|h0
         .exact h0
         .have:0<flx.length:=by rw[hx4];exact yDi h0 hpos
          exact tw
        exact⟨hx0,ym⟩
       obtain⟨v',w',r,hown,hgr,hnew⟩:=src.grow hypos A xs.length cap flx hA hx4 hcells ym hmax hby;refine⟨v',w',r,c.push w' v' (.own e i.size (xs.length+ys.length)),rfl,rfl,?_,?_,?_,?_⟩
       .exact Sr.push hs hgr (λb hb=>⟨hnew b hb,aFh hown hb⟩) ⟨_,hown⟩
       .exact Nx.push hs hgr hnew
       .have nx:Nx 0 c (c.push w' v' (.own e i.size (xs.length+ys.length))):=Nx.push hs hgr hnew;refine aKz (e:=e) (flx:=flx) (fly:=fly) rfl rfl ym hx3 b3 hx4 a5 b5 (λj v d q1 q2=>(a7 j v d q1 q2).mono nx) (λj v d q1 q2=>(b7 j v d q1 q2).mono nx) hown ?_ ?_
        .intro g j hg hj;refine ZJ (hs.fresh _ (hnew g hg)) (λid o hd ho hb=>?_);rcases hd with hd|rfl
         .rw[o6 hs hd]at hb;have:=hs.lt id g hd hb;have:=hnew g hg;omega
         .rw[fS.1]at ho;exact uk
        .intro cp _;exact⟨.inr rfl,e,_,fS.1,yAk _,λ_=>fS.2.1⟩
       .exact bh
      |own id=>
       simp only at h;split at h
       .rename_i hflid;split at h
        .rename_i e' kO n hq;split at h
         .rename_i hcc;obtain⟨he,rfl,rfl⟩:=hcc;have he:=he.symm;subst he;simp only[yAb,yAc]at h;obtain⟨rfl,rfl⟩:=h;obtain⟨hfl,rfl⟩:=hflid;obtain⟨hd,e0,m0,lM,hle,hρ⟩:=a8;rw[hq]at lM;simp only[yAb,U.own.injEq]at lM;obtain⟨rfl,_,rfl⟩:=lM;have aKD:=hρ rfl;obtain⟨ZK,aB9⟩:=hs.own id _ _ _ hd hq;rw[aKD]at aB9;have hfx:flx=ZK:=aTQ aB9 a4 hcells;subst hfx;have hrun:∃v' w',(Builtin.append_ #[t,u] ty #[.slice A xs.length cap,vx]).run P c.w=.ok v' w' /\
            w'.ownsRowF 0 e i.size v' (xs.length+ys.length) (flx++fly)/\(w'.os=c.w.os/\w'.tape=c.w.tape/\w'.output=c.w.output/\c.w.heap.size<=w'.heap.size) /\
            (∀k,k<c.w.heap.size->aW (c.ρ id)≠some k->w'.heap[k]?=c.w.heap[k]?) /\
            (∀(a:Addr) (u:Value),(∀b,aW (c.ρ id)=some b->a.block=b->a.off<xs.length*i.size)->c.w.cell? a=some u->w'.cell? a=some u) /\
            (aW v'=aW (c.ρ id)\/∀b,aW v'=some b->c.w.heap.size<=b):=by
           rw[aKD];have hgrow:cap<xs.length+ys.length->(A=none->xs.length=0/\cap=0)->∃v' w',(Builtin.append_ #[t,u] ty #[.slice A xs.length cap,vx]).run P c.w=.ok v' w' /\
             w'.ownsRowF 0 e i.size v' (xs.length+ys.length) (flx++fly)/\(w'.os=c.w.os/\w'.tape=c.w.tape/\w'.output=c.w.output/\c.w.heap.size<=w'.heap.size) /\
             (∀k,k<c.w.heap.size->aW (.slice A xs.length cap)≠some k->w'.heap[k]?=c.w.heap[k]?) /\
             (∀(a:Addr) (u:Value),(∀b,aW (.slice A xs.length cap)=some b->a.block=b->a.off<xs.length*i.size)->c.w.cell? a=some u->w'.cell? a=some u) /\
             (aW v'=aW (.slice A xs.length cap)\/∀b,aW v'=some b->c.w.heap.size<=b):=λhcap hA=>by
            obtain⟨v',w',r,h2,h3,h4⟩:=src.grow hypos A xs.length cap flx hA a4 hcells hcap hmax hby;refine⟨v',w',r,h2,⟨h3.os,h3.tape,h3.output,h3.size⟩,λk hk _=>h3.block k hk yo,λa u _ E1=>?_,.inr h4⟩;rw[yCp (h3.block a.block (M5 E1) yo)];exact E1
           rcases aB9.2 with⟨fQ,h0⟩ | ⟨g,a7r,cur,fz,fQ,_,hg,hfz,hnc,hcm,hcs,htake⟩
           .simp only[yBG]at fQ;obtain⟨rfl,_,rfl⟩:=fQ;exact hgrow ym (λ_=>⟨h0,rfl⟩)
           .simp only[yBG]at fQ;obtain⟨rfl,_,rfl⟩:=fQ
            by_cases hroom:xs.length+ys.length<=cap
            .obtain⟨w',r,h2,h3⟩:=src.spare g xs.length cap flx aB9 hroom;refine⟨_,w',r,h2,⟨h3.os,h3.tape,h3.output,h3.size⟩,λk hk hne=>h3.block k hk (by simpa [aW,eq_comm]using hne),λa u ha E1=>?_,.inl rfl⟩
             by_cases hag:a.block=g
             .have hoff:=ha g rfl hag;rcases h2.2 with⟨lQ,_⟩ | ⟨g1,cp1,aTW,fz1,lQ,_,mE,_,_,_,_,aTX⟩
              .simp at lQ
              .simp only[yBG,yAb,yBt,yAV]at lQ;obtain⟨rfl,_,rfl⟩:=lQ;obtain⟨ab,ao,asp⟩:=a;simp only at hag hoff;subst hag;simp only[World.cell?,hg,mE]at E1 ⊢;split at E1
               .simp at E1
               .rename_i hsp;rw[yAI hsp];have q1:flx[ao]?=some u:=by rw[<-htake,yAv,yAJ hoff];simpa using E1
                have q2:(flx++fly)[ao]?=some u:=by rw[yAg (yA.1 q1).1];exact q1
                rw[<-aTX,yAv]at q2;split at q2
                .simpa using q2
                .simp at q2
             .rw[yCp (h3.block a.block (M5 E1) (by simpa using hag))];exact E1
            .exact hgrow ym (λh=>zk)
          obtain⟨v',w',r,hown,h0,h1,h2,h3⟩:=hrun;have hn:xs.length<xs.length+ys.length:=ym;refine⟨v',w',r,c.put w' id v' (.own e i.size (xs.length+ys.length)),rfl,rfl,Sr.ZL hs hd hq hn h0 h1 h2 h3 hown (λb hb=>aFh hown hb),Nx.ZL hs hd hq hfl hn h0 h1 h2 h3,?_,λ_ h=>.inl h⟩;have nx:Nx 0 c (c.put w' id v' (.own e i.size (xs.length+ys.length))):=Nx.ZL hs hd hq (yAF _) hn h0 h1 h2 h3;refine aKz (e:=e) (flx:=flx) (fly:=fly) rfl rfl ym a3 b3 a4 a5 b5 (λj v d q1 q2=>(a7 j v d q1 q2).mono nx) (λj v d q1 q2=>(b7 j v d q1 q2).mono nx) hown ?_ ?_
          .intro g j hg hj;have hXg:c.X ⟨g,j,none⟩:=by
            rcases h3 with h3|h3
            .exact hX id g hd hfl (by rw[<-h3];exact hg) _ rfl
            .exact hs.fresh _ (h3 g hg)
           refine ZJ hXg (λi' o hd' ho hb=>?_)
           by_cases e':i'=id
           .subst e';rw[eZ (hs.aZ i' hd)]at ho;exact uk
           .rw[fM e']at hb
            exfalso
            rcases h3 with h3|h3
            .exact hs.inj i' id g hd' hd e' hb (by rw[<-h3];exact hg)
            .have:=h3 g hg;have:=hs.lt i' g hd' hb;omega
          .intro cp _;exact⟨hd,e,_,eZ (hs.aZ id hd),yAk _,λ_=>nW⟩
         .exact ah
        .exact ah
       .exact ah
    .exact ah
   .exact ah
  .exact ah
 .exact ah
theorem aKE(hs:Sr c)(hX:Xw fl c){t u ty:TypeId}{s p:PD}{sz':Nat}{ys:Dq}{bP:Tok}{σ':Dp}(h:dX P fl c.σ t s (.slice sz' ys bP)=some (p,σ')){vs vx:Value}(hvs:VR c vs s){fly:Ds}
  (b3:∀x∈ys,x.cells.length=sz') (b5:∀v∈fly,v.oneCell'=true) (b7:∀(j:Nat) (v:Value) (d:PD),fly[j]?=some v->(ys.flatMap PD.cells)[j]?=some d->VR c v d)
  (hsrc:∀e i z,P.underlying t=some (.slice e)->P.info? e=some i->i.zero=some z->z.cells.size=i.size->0<i.size->(ys.length=0\/sz'=i.size)->Src P c.w t u ty e i vx ys.length fly) :
  ∃v w',(Builtin.append_ #[t,u] ty #[vs,vx]).run P c.w=.ok v w'/\Leaves fl c p σ' v w':=by
 by_cases hn:∃n xs,s=.slice n xs .nil
 .obtain⟨n,xs,rfl⟩:=hn;have aTY:VR c vs (.slice n xs .full):=by
   obtain⟨A,cap,cE,rfl,a1,a2,a3,a4,a5,a6,a7,a8⟩:=hvs.oH;exact .slice A _ cap n xs .full cE rfl a1 a2 a3 a4 a5 a6 a7 (by obtain⟨_,q1,q2⟩:=a8;show xs.length=cap;omega)
  have h2:∀(h0:ys.length≠0),dX P fl c.σ t (.slice n xs .full) (.slice sz' ys bP)=some (p,σ'):=λh0=>by
   unfold dX at h ⊢;cases he:P.underlying t with
   |none=>rw[he]at h;cases h
   |some d=>
    rw[he]at h;cases d with
    |slice e=>
     simp only at h ⊢;cases hi:P.info? e with
     |none=>rw[hi]at h;cases h
     |some i=>
      rw[hi]at h;simp only at h ⊢;cases hz:i.zero with
      |none=>rw[hz]at h;cases h
      |some z=>
       rw[hz]at h;simp only[h0,yAO]at h ⊢;exact h
    |_=>cases h
  by_cases h0:ys.length=0
  .obtain⟨A,cap,cE,rfl,a1,a2,a3,a4,a5,a6,a7,a8⟩:=hvs.oH;unfold dX at h;split at h
   .rename_i e he;split at h
    .rename_i i hi;split at h
     .rename_i z _ _ _ _ _ _ hz pS G7;simp only[PD.slice.injEq]at pS G7;obtain⟨rfl,rfl,rfl⟩:=pS;obtain⟨rfl,rfl,rfl⟩:=G7;split at h
      .rename_i hc;simp only[yAb,yAc]at h;obtain⟨rfl,rfl⟩:=h;exact⟨.slice A xs.length cap,c.w,(hsrc e i z he hi hz hc.2.2.2.1 hc.2.2.1 hc.2.1).none_ h0 A _ cap a1,c,rfl,rfl,hs,.refl _ _,hvs,λ_ h=>.inl h⟩
      .cases h
     .cases h
    .cases h
   .cases h
  .exact aKC hs hX (λ_ _ e=>zh) (h2 h0) aTY b3 b5 b7 hsrc
 .exact aKC hs hX (λn xs e=>hn ⟨n,xs,e⟩) h hvs b3 b5 b7 hsrc
theorem aTz(hs:Sr c)(hX:Xw fl c){t:TypeId}{s x p:PD}{σ':Dp}(h:dX P fl c.σ t s x=some (p,σ')){vs vx:Value}(hvs:VR c vs s)(hvx:VR c vx x)(ty:TypeId) :
  ∃v w',(Builtin.append_ #[t,t] ty #[vs,vx]).run P c.w=.ok v w'/\Leaves fl c p σ' v w':=by
 have hx:∃sz' ys bP,x=.slice sz' ys bP:=by
  unfold dX at h;split at h
  .split at h
   .split at h
    .exact⟨_,_,_,rfl⟩
    .cases h
   .cases h
  .cases h
 obtain⟨sz',ys,bP,rfl⟩:=hx;obtain⟨B,cap',fly,rfl,b1,b2,b3,b4,b5,b6,b7,b8⟩:=hvx.oH;refine aKE hs hX h hvs b3 b5 b7 (λe i z hu hi hz hzs hpos hsz=>?_);have hl:fly.length=ys.length*i.size:=by
  rcases hsz with h0|h0
  .rw[b4,h0];simp
  .rw[b4,h0]
 exact aTT hu hi hz hzs hpos hl b5 (λj v hj=>by obtain⟨ad,q1,q2,_⟩:=b6 j v hj;exact⟨ad,q1,q2⟩)
def KF(l:List UInt8):PD:=.slice (if l.length=0 then 0 else 1) (l.map λb=>.int .u8 b.toNat) .any
theorem TZ:∀l:List UInt8,(l.map λb=>PD.int .u8 b.toNat).flatMap PD.cells=l.map λb=>PD.int .u8 b.toNat
 | []=>rfl
 |x::xs=>by
  simp only[yAX,yBg,TZ xs];rfl
theorem aTB(hs:Sr c)(hX:Xw fl c){t u:TypeId}{s p:PD}{l:Dr}{σ':Dp}(hst:P.underlying u=some .string)(hb:xT P t=true)(h:dX P fl c.σ t s (KF l)=some (p,σ')){vs:Value}(hvs:VR c vs s)(ty:TypeId) :
  ∃v w',(Builtin.append_ #[t,u] ty #[vs,.string ⟨l.toArray⟩]).run P c.w=.ok v w'/\Leaves fl c p σ' v w':=by
 have hfm:(l.map λb=>PD.int .u8 b.toNat).flatMap PD.cells=l.map λb=>PD.int .u8 b.toNat:=TZ l
 have:=aKE (u:=u) (ty:=ty) (vx:=.string ⟨l.toArray⟩) (fly:=l.map λb=>.int .u8 b.toNat) hs hX h hvs ?_ ?_ ?_ ?_
 .exact this
 .intro x hx;obtain⟨b,hb,rfl⟩:=yAw.1 hx;have:l.length≠0:=by intro e;rw[yDU.1 e]at hb;cases hb
  rw[yAI this];rfl
 .intro v hv;exact jm
 .intro j v d h1 h2;rw[hfm]at h2;exact je
 .intro e i z hu hi hz hzs hpos hsz;simp only[xT,hu,hi,hz]at hb;rw[yAe];split at hb
  .rename_i heq;simp only[yAb]at heq;subst heq;simp only[yAr,yBI]at hb;exact aKm hu hst hi hz hb.1 hb.2 l
  .cases hb
end
end
section
open Go.RowKit
section
variable{P:Program}{c:Cx}{fl:Nat}
theorem aKx{n:Nat}:∀(parts:List (Nat×PD)) (i:Nat) (ps z:List PD),UC i parts=some ps->(∀p∈ps,p.cells.length=n/\p.cells.all PD.plain=true)->(i+ps.length)*n<=z.length ->
  KA (λi=>some (i*n,n)) z parts=some (z.take (i*n)++ps.flatMap PD.cells++z.drop ((i+ps.length)*n))
 | [],i,ps,z,h,_,_=>by simp[UC]at h;subst h;simp[KA]
 |(j,p)::parts,i,ps,z,h,hp,hl=>by
  unfold UC at h;split at h
  .rename_i hj;subst hj;split at h
   .rename_i qs hq;simp only[yAb]at h;subst h;obtain⟨nS,U1⟩:=hp p yo;have hle:(j+1+qs.length)*n<=z.length:=by simpa [yCr,yCq 1]using hl
    have hjn:j*n+n<=z.length:=by
     exact td
    have hz:(jG z (j*n) p.cells).length=z.length:=by simp[jG,nS];omega
    have ih:=aKx parts (j+1) qs (jG z (j*n) p.cells) hq (λq lM=>hp q (by simp[lM])) (by rw[hz];exact hle);have e1:(jG z (j*n) p.cells).take ((j+1)*n)=z.take (j*n)++p.cells:=by
     unfold jG;rw[List.take_append_of_le_length (by simp[nS,yBs];omega),yAz (by simp[nS,yBs];omega)]
    have e2:(jG z (j*n) p.cells).drop ((j+1+qs.length)*n)=z.drop ((j+1+qs.length)*n):=by
     have h3:j*n+n<=(j+1+qs.length)*n:=by
      exact td
     unfold jG;rw[List.drop_append,yAs (by simp[nS];omega),yAQ,yBq]
     congr 1
     simp[nS];omega
    unfold KA;simp only;rw[yAI (by simp[nS,U1];omega),ih,e1,e2];simp only[yBg,yAi,yAK];rw[show j+1+qs.length=j+(qs.length+1) by omega]
   .exact ah
  .exact ah
theorem aFf{t:TypeId}{n:Nat}(h:bI P t=some n):∃i,P.info? t=some i/\i.size=n:=aB7 h
theorem aKg(hs:Sr c){t:TypeId}{len:Nat}{parts:List (Nat×PD)}{vparts:List (Nat×Value)}{p:PD}(h:J7 P t len parts=some p)(hl:vparts.length=parts.length)
  (hp:∀(i:Nat) (jv:Nat×Value) (jp:Nat×PD),vparts[i]?=some jv->parts[i]?=some jp->jv.1=jp.1/\VR c jv.2 jp.2) :
  ∃e cells',P.underlying t=some (.slice e)/\(Instr.buildSlice t len vparts.toArray).run P c.w=.ok (.slice (some ⟨c.w.heap.size,0,none⟩) len len) (c.w.alloc (.cells cells' e)) /\
   ∀w'' fz,c.w.grownBy w'' none->w''.heap[c.w.heap.size]?=some (.cells cells' e fz)->VR (c.at w'') (.slice (some ⟨c.w.heap.size,0,none⟩) len len) p:=by
 unfold J7 at h;split at h
 .rename_i e hu;split at h
  .rename_i n z ps hn hz hix;split at h
   .rename_i hcond;obtain⟨hlen,hn0,hsmall,hall,hzl,hzp⟩:=hcond;simp only[yAb]at h;subst h;obtain⟨zv,i,hi,hzv,hzr⟩:=O2 (c:=c) hz;have hzc:=hzr.cells;have hzs:zv.cells.size=n:=Ch;have hps:∀q∈ps,q.cells.length=n/\q.cells.all PD.plain=true:=λq hq=>by
     have:=yAn.1 hall q hq;exact bp
    let z0:List PD:=(List.range (len*n)).map λk=>z.cells.getD (k%n) (.aI [])
    let c0:Array Value:=(Array.range (len*n)).map λk=>zv.cells[k%zv.cells.size]!
    have hc0:aK c c0.toList z0:=by
     refine⟨by simp[c0,z0],λk v d hv hd=>?_⟩;simp only[c0,z0,yDg,yDh,yAo]at hv hd;cases hk:(List.range (len*n))[k]? with
     |none=>simp[hk]at hv
     |some k'=>
      exact eu
    have hz1:∀v∈zv.cells.toList,v.oneCell'=true:=aK.G3 hzc hzp;have qY:∀v∈c0.toList,v.oneCell'=true:=by
     intro v hv;simp only[c0,yDg,yDh,yAw]at hv;exact mb
    have aKy:z0.length=len*n:=by simp[z0]
    have hfi:=aKx (n:=n) parts 0 ps z0 hix hps (by rw[aKy,hlen];simp);obtain⟨cells',f1,f2,f3⟩:=aB8 parts vparts z0 c0 _ hl hp hc0 qY hfi;have hcs:z0.take (0*n)++ps.flatMap PD.cells++z0.drop ((0+ps.length)*n)=ps.flatMap PD.cells:=by
     rw[yAs (by rw[aKy,hlen];simp)];simp
    rw[hcs]at f2;have hfl:cells'.toList.length=len*n:=by rw[f2.1,RA ps (λq hq=>(hps q hq).1),hlen]
    refine⟨e,cells',hu,?_,λw'' fz hgr hnew=>?_⟩
    .have hln:¬(len*n > 2^24):=by omega
     obtain⟨i',hi',hsz⟩:=aFf hn;have hfz:Instr.fill (λi=>some (i*n,n)) ((Array.range (len*n)).map λk=>(if len*n=0 then(#[]:Array Value)else zv.cells)[k%(if len*n=0 then(#[]:Array Value)else zv.cells).size]!) vparts=some cells':=by
      by_cases h0:len*n=0
      .simp only[h0,yAM];have:c0=#[]:=by simp[c0,h0]
       rw[this]at f1;rw[show(Array.range 0)=#[]from rfl];simpa using f1
      .simp only[h0,yAO];exact f1
     simp only[Instr.buildSlice,yAW,yAN hu,yBa,mF hn,yAI hln]
     by_cases h0:len*n=0
     .simp only[h0,yAM]at hfz ⊢;simp only[yAW,yBb,yBa,hfz];simp[newRow]
     .simp only[h0,yAO]at hfz ⊢;have RF:(zeroValue e).run P c.w=.ok zv c.w:=Ar;simp only[yAW,yBb,yBa,RF,hfz];simp[newRow]
    .have nx:Nx 0 c (c.at w''):=Nx.grow hs hgr;refine .slice (some ⟨c.w.heap.size,0,none⟩) len len n ps .full cells'.toList hlen.symm (yAk _) ?_ (λq hq=>(hps q hq).1) hfl f3 ?_ (λj v d q1 q2=>(f2.2 j v d q1 q2).mono nx) rfl
     .have:len<=len*n:=Nat.le_mul_of_pos_right _ hn0;simp only[maxLen];omega
     .intro j v hv;have hadd:(⟨c.w.heap.size,0,none⟩:Addr).add j=⟨c.w.heap.size,j,none⟩:=ze;refine⟨_,rfl,?_,?_⟩
      .rw[hadd];show w''.cell? _=_
       simp only[World.cell?,hnew];simpa using hv
      .exact ei
   .exact ah
  .exact ah
 .exact ah
theorem aTp(hs:Sr c){t:TypeId}{len:Nat}{parts:List (Nat×PD)}{vparts:List (Nat×Value)}{p:PD}(h:J7 P t len parts=some p)(hl:vparts.length=parts.length)
  (hp:∀(i:Nat) (jv:Nat×Value) (jp:Nat×PD),vparts[i]?=some jv->parts[i]?=some jp->jv.1=jp.1/\VR c jv.2 jp.2) :
  ∃v w',(Instr.buildSlice t len vparts.toArray).run P c.w=.ok v w'/\Leaves fl c p c.σ v w':=by
 obtain⟨e,cells',hu,hr,hv⟩:=aKg hs h hl hp;have hgr:=KB c.w (.cells cells' e);exact⟨_,_,hr,c.at (c.w.alloc (.cells cells' e)),rfl,rfl,Sr.grow hs hgr,Nx.grow hs hgr,hv _ (0,0) hgr (yBL _ _),λ_ h=>.inl h⟩
theorem run_mark{t e:TypeId}(w:World)(cs:Array Value)(n cap:Nat)(hu:P.underlying t=some (.slice e))(he:P.underlying e=some (.int .u8)) :
  (convert t t (.slice (some ⟨w.heap.size,0,none⟩) n cap)).run P (w.alloc (.cells cs e))=.ok (.slice (some ⟨w.heap.size,0,none⟩) n cap) ((w.alloc (.cells cs e)).freeze ⟨w.heap.size,cs.size,none⟩ 1):=by
 have hsh:(w.alloc (.cells cs e)).shape? w.heap.size=some (e,cs.size):=by simp[World.shape?,World.alloc,-World.alloc_eq]
 simp[convert,yAN hu,yAN he,markStringish,hsh,Result.andThen]
theorem aTj(w:World)(e:TypeId)(cs:Array Value):∃fz,((w.alloc (.cells cs e)).freeze ⟨w.heap.size,cs.size,none⟩ 1).heap[w.heap.size]?=some (.cells cs e fz):=by
 refine⟨(cs.size,cs.size+1),?_⟩;simp[World.freeze,World.alloc,-World.alloc_eq];rw[Array.getElem_modify_self];simp
theorem aTi(w:World)(e:TypeId)(cs:Array Value):w.grownBy ((w.alloc (.cells cs e)).freeze ⟨w.heap.size,cs.size,none⟩ 1) none where
 os:=rfl
 tape:=rfl
 output:=rfl
 size:=by simp[World.freeze,World.alloc,-World.alloc_eq]
 block:=λk hk _=>by
  have h1:w.heap.size≠k:=ym;simp[World.freeze,World.alloc,-World.alloc_eq,yCv,Array.getElem?_push,h1,yBd h1]
theorem aTP(w:World)(e:TypeId)(s:ByteArray):w.grownBy (Lib.bytesWorld w e s) none where
 os:=rfl
 tape:=rfl
 output:=rfl
 size:=by rw[Lib.bytesWorld_size];omega
 block:=λk hk _=>Lib.bytesWorld_at_old w e s k hk
theorem aFi:∀ {xs:Dq} {l:Dr},Q0 xs=some l->∃ns:List Int,xs=ns.map (PD.int .u8)/\l=ns.map λn=>UInt8.ofNat n.toNat
 | [],l,h=>by simp only[Q0,yAb]at h;subst h;exact⟨[],rfl,rfl⟩
 |x::xs,l,h=>by
  unfold Q0 at h;split at h
  .rename_i h0;cases h0
  .rename_i n r h0;simp only[yBx]at h0;obtain⟨rfl,rfl⟩:=h0;split at h
   .rename_i l' hl;simp only[yAb]at h;obtain⟨ns,rfl,rfl⟩:=aFi hl;exact⟨n::ns,rfl,h.symm⟩
   .cases h
  .cases h
theorem aFj:∀(ns:List Int) (s:ByteArray),ns.foldl (λr n=>r.push (UInt8.ofNat n.toNat)) s=⟨s.data++(ns.map λn=>UInt8.ofNat n.toNat).toArray⟩
 | [],s=>yo
 |n::ns,s=>by
  rw[yDc,aFj ns];simp[ByteArray.push]
theorem aTq(hs:Sr c){s d:TypeId}{x p:PD}(h:YP P s d x=some p){vx:Value}(hx:VR c vx x):∃v w',(convert s d vx).run P c.w=.ok v w'/\Leaves fl c p c.σ v w':=by
 unfold YP at h;split at h
 .rename_i e l hu hd;split at h
  .rename_i he;split at h
   .rename_i hl;simp only[yAb]at h;subst h;have hv:=hx.sZ;subst hv;have hsz:(ByteArray.mk l.toArray).size=l.length:=Aj;have hgr:=aTP c.w e ⟨l.toArray⟩;have r:=Lib.run_convert_string_bytes (P:=P) c.w s d e ⟨l.toArray⟩ hu hd he;have hge:=yDj c.w l.length 0 e;have hcm:=yDk c.w l.length 0 e hl;rw[hsz]at r;refine⟨_,_,r,c.at (Lib.bytesWorld c.w e ⟨l.toArray⟩),rfl,rfl,Sr.grow hs hgr,Nx.grow hs hgr,?_,λ_ h=>.inl h⟩;refine .slice (some ⟨c.w.heap.size,0,none⟩) l.length _ 1 _ .any (l.map λb=>Value.int .u8 b.toNat) yo hge hcm (λq hq=>?_) yo (λv hv=>?_) (λj v hv=>?_) (λj v q q1 q2=>?_) trivial
    .obtain⟨b,_,rfl⟩:=yAw.1 hq;rfl
    .exact jm
    .have hadd:(⟨c.w.heap.size,0,none⟩:Addr).add j=⟨c.w.heap.size,j,none⟩:=by unfold Addr.add;split<;>simp_all
     refine⟨_,rfl,?_,?_⟩
     .rw[hadd];have hj:j<l.length:=by simpa using(yA.1 hv).1
      have:=Lib.bytesWorld_cell c.w e ⟨l.toArray⟩ j (by rw[hsz];exact hj);show(Lib.bytesWorld c.w e ⟨l.toArray⟩).cell? _=_
      rw[this];rw[yAo,yAh hj]at hv;simp only[yAC,yAb]at hv;rw[<-hv];simp[List.getD,hj]
     .exact ei
    .have e1:∀l:List UInt8,(l.map λb=>PD.int .u8 b.toNat).flatMap PD.cells=l.map λb=>PD.int .u8 b.toNat:=by
      intro l
      induction l with
      |nil=>rfl
      |cons b l ih=>
       simp only[yAX,yBg,ih];rfl
     rw[e1,yAo]at q2;rw[yAo]at q1;cases hj:l[j]? with
     |none=>rw[hj]at q1;cases q1
     |some b=>
      rw[hj]at q1 q2;simp only[yAC,yAb]at q1 q2;subst q1 q2;exact .int _ _
   .cases h
  .cases h
 .rename_i e sz xs tok hu hd;split at h
  .rename_i he;split at h
   .rename_i hsz;split at h
    .rename_i l hl;simp only[yAb]at h;subst h;obtain⟨A,cap,cE,rfl,h2,h3,h4,h5,h6,h7,h8,h9⟩:=hx.oH;obtain⟨ns,rfl,rfl⟩:=aFi hl;rw[yAe]at h2 h5 hsz ⊢;have hfl:cE=ns.map (Value.int .u8):=by
      have hlen:cE.length=ns.length:=by
       rcases hsz with h|h
       .rw[h5,h];simp
       .rw[h5,h];simp
      refine yBS λj=>?_
      by_cases hj:j<ns.length
      .have e1:((ns.map (PD.int .u8)).flatMap PD.cells)[j]?=some (.int .u8 ns[j]):=by
        have:∀ns:List Int,(ns.map (PD.int .u8)).flatMap PD.cells=ns.map (PD.int .u8):=by
         intro ns
         induction ns with
         |nil=>rfl
         |cons b l ih=>
          simp only[yAX,yBg,ih];rfl
        rw[this,yAo,yAh hj];rfl
       have:=(h8 j cE[j] _ (yAh ym) e1).pR;rw[yAh (show j<cE.length by omega),yAo,yAh hj,this];rfl
      .rw[yBo ym,yBo zc]
     subst hfl;have hrun:(convert s d (.slice A ns.length cap)).run P c.w=.ok (.string ⟨(ns.map λn=>UInt8.ofNat n.toNat).toArray⟩) c.w:=by
      rw[run_convert_bytes_string c.w s d e A ns.length cap hu he hd];cases A with
      |none=>
       have:ns=[]:=by
        cases ns with
        |nil=>rfl
        |cons n ns=>
         obtain⟨ad,e',_⟩:=h7 0 _ rfl;cases e'
       subst this;simp[Conv.bytesToString,yBb];rfl
      |some a=>
       rw[run_bytesToString c.w a ns.length cap ns (UW yo (λj v hj=>by
        obtain⟨ad,e',h10,_⟩:=h7 j v hj;cases e';exact h10)),aFj]
       simp
     exact⟨_,_,hrun,c,rfl,rfl,hs,.refl _ _,.str _,λ_ h=>.inl h⟩
    .cases h
   .cases h
  .cases h
 .cases h
end
end
section
open Go.RowKit
section
variable{P:Program}{c:Cx}{fl:Nat}
theorem aKp(z:PD)(n l:Nat):(s5 z n l).length=l*n:=by simp[s5]
theorem aKn{zv:Value}{z:PD}{n:Nat}(hz:VR c zv z)(hn:z.cells.length=n)(hn0:0<n)(l:Nat):aK c (madeCells zv.cells (l*n)).toList (s5 z n l):=by
 have hzc:=hz.cells;have hzs:zv.cells.size=n:=Ch;refine⟨by simp[madeCells,s5],λk v d hv hd=>?_⟩;simp only[madeCells,s5,yDg,yDh,yAo]at hv hd;cases hk:(List.range (l*n))[k]? with
 |none=>simp[hk]at hv
 |some k'=>
  exact eu
theorem aKo{zv:Value}{z:PD}{n:Nat}(hz:VR c zv z)(hn:z.cells.length=n)(hn0:0<n)(hp:z.cells.all PD.plain=true)(l:Nat):∀v∈(madeCells zv.cells (l*n)).toList,v.oneCell'=true:=by
 have hzc:=hz.cells;have hzs:zv.cells.size=n:=Ch;have hz1:∀v∈zv.cells.toList,v.oneCell'=true:=aK.G3 hzc hp;intro v hv;simp only[madeCells,yDg,yDh,yAw]at hv;exact mb
theorem aTN{z:PD}{n l:Nat}(hn:z.cells.length=n)(hn0:0<n):(List.replicate l z).flatMap PD.cells=s5 z n l:=by
 have hx:∀x∈List.replicate l z,x.cells.length=n:=λx hx=>by rw[(List.mem_replicate.1 hx).2];exact hn
 have hl:((List.replicate l z).flatMap PD.cells).length=l*n:=by rw[RA _ hx,yDl]
 refine yBS λj=>?_
 by_cases hj:j<l*n
 .have hi:j/n<l:=Nat.div_lt_of_lt_mul (by rw[Nat.mul_comm];exact hj);have hm:j%n<n:=yBj _ hn0;have:=aFg n (List.replicate l z) hx (j/n) z (by simp[hi]) (j%n) hm;rw[Nat.div_add_mod']at this;rw[this];simp only[s5,yAo,List.getElem?_range hj,yAC];rw[yAh ym];simp[List.getD,show j%n<z.cells.length by omega]
 .rw[yBo ym,yBo (by rw[aKp];omega)]
theorem aTs(hs:Sr c){t e:TypeId}{l k:Nat}{p:PD}{σ':Dp}(hu:P.underlying t=some (.slice e))(h:xS P c.σ t e l k=some (p,σ'))(kl kk:IntKind) :
  ∃v w',(Instr.makeSlice t (.int kl (l:Int)) (.int kk (k:Int))).run P c.w=.ok v w'/\Leaves fl c p σ' v w':=by
 unfold xS at h;split at h
 .rename_i i n z hi hn hz;split at h
  .rename_i hc;obtain⟨hlk,hn0,hzl,hzp,hmax,hby⟩:=hc;obtain⟨zv,i',hi',hzv,hzr⟩:=O2 (c:=c) hz;rw[hi]at hi';obtain rfl:=yBw hi';obtain⟨i',hi',hsz⟩:=aFf hn;rw[hi]at hi';obtain rfl:=yBw hi';have hmx:(k:Int)<=9223372036854775807:=Ce;have hb':(i.bytes:Int)*(k:Int)<=281474976710656:=by
    have:((i.bytes*k:Nat):Int)<=281474976710656:=by rw[Nat.mul_comm];omega
    rwa [Int.natCast_mul]at this
   have hr:=run_make (P:=P) c.w t e i zv hu hi hzv kl kk l k ym ym hb' hmx;simp only[yBk]at hr;rw[hsz]at hr;have hgr:=KB c.w (.cells (madeCells zv.cells (k*n)) e);have hnew:=yBL c.w (.cells (madeCells zv.cells (k*n)) e);have hsize:(madeCells zv.cells (k*n)).size=k*n:=size_madeCells _ _;split at h
   .rename_i h0;obtain⟨rfl,hk0⟩:=h0;simp only[yAb,yAc]at h;obtain⟨rfl,rfl⟩:=h;have hown:(c.w.alloc (.cells (madeCells zv.cells (k*n)) e)).ownsRowF 0 e n (.slice (some ⟨c.w.heap.size,0,none⟩) 0 k) 0 []:=
     ⟨yo,.inr ⟨c.w.heap.size,k,_,(0,0),rfl,yAF _,hnew,yAF _,yAF _,hmax,hsize,yo⟩⟩
    have hbk:∀b,aW (.slice (some ⟨c.w.heap.size,0,none⟩) 0 k)=some b->c.w.heap.size<=b:=λb hb=>Bb
    refine⟨_,_,hr,c.push (c.w.alloc (.cells (madeCells zv.cells (k*n)) e)) (.slice (some ⟨c.w.heap.size,0,none⟩) 0 k) (.own e n 0),rfl,rfl,?_,Nx.push hs hgr hbk,?_,?_⟩
    .exact Sr.push hs hgr (λb hb=>⟨hbk b hb,aFh hown hb⟩) ⟨_,hown⟩
    .exact .slice (some ⟨c.w.heap.size,0,none⟩) 0 k n [] (.own c.σ.length) [] rfl (yAF _) hmax yo yo yo yo yo ⟨.inr rfl,e,0,fS.1,yAk _,λ_=>fS.2.1⟩
    .exact bh
   .split at h
    .rename_i aTO;subst aTO;have hcv:=aKn (c:=c) hzr hzl hn0 l;have qY:=aKo (c:=c) hzr hzl hn0 hzp l;split at h
     .simp only[yAb,yAc]at h;obtain⟨rfl,rfl⟩:=h;have hbk:∀b,aW (.pointer (some ⟨c.w.heap.size,0,none⟩))=some b->c.w.heap.size<=b/\b<(c.w.alloc (.cells (madeCells zv.cells (l*n)) e)).heap.size:=λb hb=>by
       simp[aW]at hb;subst hb;simp
      refine⟨_,_,hr,c.push (c.w.alloc (.cells (madeCells zv.cells (l*n)) e)) (.pointer (some ⟨c.w.heap.size,0,none⟩)) (.box (.agg (s5 z n l))),rfl,rfl,?_,Nx.push hs hgr (λb hb=>(hbk b hb).1),?_,?_⟩
      .exact Sr.push hs hgr hbk ⟨_,madeCells zv.cells (l*n),e,rfl,hnew,hcv,qY,λt ds e=>zh⟩
      .exact .cL _ _ _ _ _ _ (.inr rfl) ⟨_,fS.1⟩ fS.2.1 (yAk _) hmax
      .exact bh
     .simp only[yAb,yAc]at h;obtain⟨rfl,rfl⟩:=h;have nx:Nx 0 c (c.at (c.w.alloc (.cells (madeCells zv.cells (l*n)) e))):=Nx.grow hs hgr;refine⟨_,_,hr,c.at (c.w.alloc (.cells (madeCells zv.cells (l*n)) e)),rfl,rfl,Sr.grow hs hgr,Nx.grow hs hgr,?_,λ_ h=>.inl h⟩;refine .slice (some ⟨c.w.heap.size,0,none⟩) l l n _ .full (madeCells zv.cells (l*n)).toList yo (yAk _) hmax (λq hq=>by rw[(List.mem_replicate.1 hq).2];exact hzl) (by simp[hsize]) qY ?_ (λj v d q1 q2=>?_) (by simp[qW])
      .intro j v hv;have hadd:(⟨c.w.heap.size,0,none⟩:Addr).add j=⟨c.w.heap.size,j,none⟩:=ze;refine⟨_,rfl,?_,?_⟩
       .rw[hadd];show(c.w.alloc (.cells (madeCells zv.cells (l*n)) e)).cell? _=_
        simp only[World.cell?,hnew];simpa using hv
       .exact ei
      .rw[aTN hzl hn0]at q2;exact(hcv.2 j v d q1 q2).mono nx
    .cases h
  .cases h
 .cases h
theorem aTr(hs:Sr c){s d:TypeId}{x p:PD}(h:O1 P c.σ s d x=some p){vx:Value}(hx:VR c vx x):∃v,(convert s d vx).run P c.w=.ok v c.w/\VR c v p:=by
 unfold O1 at h;split at h
 .rename_i xs e hxs hu hd;split at h
  .rename_i l he hl;simp only[yAb]at h;subst h;unfold EZ at hxs;split at hxs
   .rename_i id off n size;split at hxs
    .split at hxs
     .rename_i q hq;split at hxs
      .rename_i hle;simp only[yAb]at hxs;subst hxs;obtain⟨b,cap,rfl,hD,_,hr,_,_⟩:=hx.M4;obtain⟨b',cs,T,e1,e2,e3,e4⟩:=hs.box id q hD hq;have hbb:b=b':=by
        rw[hr]at e1;simpa using e1
       subst hbb;obtain⟨ns,hns,rfl⟩:=aFi hl;have hlen:ns.length=n:=by
        have:=yAP List.length hns;rw[yAt,yBf,yAe]at this;omega
       have hcut:=e3.take_drop off n;rw[hns]at hcut;have hfl:(cs.toList.drop off).take n=ns.map (Value.int .u8):=by
        refine yBS λj=>?_
        cases hj:ns[j]? with
        |none=>
         have hge:=yDV.1 hj;rw[yBo (by have:=hcut.1;rw[yAe]at this;omega),yBo zc]
        |some m=>
         obtain⟨v,lQ,M6⟩:=hcut.get (i:=j) (d:=.int .u8 m) (by rw[yAo,hj];rfl);rw[lQ,M6.pR,yAo,hj];rfl
       have hadd:∀j,(⟨b,off,none⟩:Addr).add j=⟨b,off+j,none⟩:=λj=>ze
       refine⟨.string ⟨(ns.map λn=>UInt8.ofNat n.toNat).toArray⟩,?_,.str _⟩;rw[run_convert_bytes_string c.w s d e (some ⟨b,off,none⟩) n cap hu he hd];rw[run_bytesToString c.w ⟨b,off,none⟩ n cap ns (by
        rw[UW (cs:=ns.map (Value.int .u8)) (by simp[hlen]) (λj v hj=>by
         rw[hadd];simp only[World.cell?,e2];rw[<-hfl,yAv]at hj;split at hj
         .rw[yBy]at hj;simpa using hj
         .cases hj)]),aFj]
       simp
      .cases hxs
     .cases hxs
    .cases hxs
   .cases hxs
  .cases h
 .cases h
end
end
end Go.Kz
